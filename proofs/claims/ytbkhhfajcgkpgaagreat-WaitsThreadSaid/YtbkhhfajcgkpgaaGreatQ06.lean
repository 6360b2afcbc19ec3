/- Part 6 of the proof. No condition of its own. -/
import Derived.Test.YtbkhhfajcgkpgaaGreatQ04
import Derived.Test.YtbkhhfajcgkpgaaGreatQ05
namespace Go.Proofs.YtbkhhfajcgkpgaaGreat
open Go.RowKit Go.Proofs.Tryz
set_option maxRecDepth 1000000
set_option maxHeartbeats 25600000
set_option linter.unusedVariables false
variable{a:Atom}{t:Int}{m:List Atom}{s:List UInt8}{k n:Nat}{c:UInt8}
def qH(l:List Int)(t:Int):Int:=if t<0 then -1 else l.getD t.toNat (-1)
def ef(l:List Int):Nat→Int→Int
 | 0,t=>t
 | k+1,t=>if t<0 then t else ef l k (qH l t)
def dp(l:List Int):Prop:=∀x∈l,-1≤x∧x<l.length
section
variable {l:List Int}
theorem w9(h:t<0):∀k,ef l k t=t
 | 0=>rfl
 | k+1=>by rw[ef,if_pos h]
theorem kT:∀(a b:Nat) (t:Int),ef l (a+b) t=ef l b (ef l a t)
 | 0,b,t=>by rw[J8];rfl
 | a+1,b,t=>by
  rw[show a+1+b=(a+b)+1 by omega,ef,ef];split
  ·rename_i h;rw[w9 h]
  ·exact kT a b _
theorem tx(k:Nat)(t:Int):ef l (k+1) t=ef l 1 (ef l k t):=kT k 1 t
theorem Eg(h:0≤t):ef l 1 t=qH l t:=by rw[ef,if_neg ab,ef]
theorem m1(hl:dp l)(t:Int):-1≤qH l t∧qH l t<l.length:=by
 unfold qH;split
 ·omega
 ·rw[List.getD_eq_getElem?_getD]
  cases h:l[t.toNat]? with
  | none=>simp;omega
  | some x=>simpa using hl x (JT h)
theorem q9(hl:dp l)(h0:-1≤t)(ae:t<l.length):∀k,-1≤ef l k t∧ef l k t<l.length:=by
 intro k
 induction k with
 | zero=>exact⟨h0,ae⟩
 | succ k ao=>
  rw[tx,ef];split
  ·exact ao
  ·exact m1 hl _
theorem du{j:Nat}(h:0≤ef l k t)(bc:j≤k):0≤ef l j t:=by
 rcases Int.lt_or_le (ef l j t) 0 with hn|hn
 ·have:=kT (l:=l) j (k - j) t;rw[show j+(k - j)=k by omega,w9 hn] at this;omega
 ·exact hn
theorem nO:∀(n:Nat) (m:List Nat),m.Nodup→(∀x∈m,x<n)→m.length≤n
 | 0,[],_,_=>JQ _
 | 0,x::m,_,h=>absurd (h x (by simp)) ab
 | n+1,m,hn,h=>by
  have ao:=nO n (m.erase n) (hn.erase n) fun x hx=>by
   have ae:=h x (List.mem_of_mem_erase hx);have aC:x≠n:=fun e=>by
    subst e;exact(List.Nodup.not_mem_erase hn) hx
   omega
  rw[List.length_erase] at ao;split at ao<;>omega
theorem xQ(hl:dp l)(ae:t<l.length)(h:0≤ef l l.length t):∃i j,i<j∧j≤l.length∧ef l i t=ef l j t:=by
 have h0:0≤t:=du (j:=0) h (Kc _);refine Classical.byContradiction fun ca=>?_;have aR:((List.range (l.length+1)).map fun k=>(ef l k t).toNat).Nodup:=by
  rw[List.Nodup,List.pairwise_iff_getElem];intro i j al bc v heq;simp only[JU,List.length_range] at al bc;simp only[List.getElem_map,List.getElem_range] at heq;have gI:=du (j:=i) h ab;have ci:=du (j:=j) h ab;exact ca ⟨i,j,v,ab,ab⟩
 have:=nO l.length _ aR fun x hx=>by
  obtain⟨k,aj,rfl⟩:=Ke.1 hx;have b:=List.mem_range.1 aj;have aC:=du (j:=k) h ab;have aT:=(q9 hl ab ae k).2;omega
 simp only[JU,List.length_range] at this;omega
def qL(l:List Int)(t:Int):Prop:=∀k,0≤ef l k t
theorem tw{c:Int}{d:Nat}(h:ef l d c=c):∀m,ef l (m*d) c=c
 | 0=>by rw[Nat.zero_mul];rfl
 | m+1=>by rw[Nat.succ_mul,kT,tw h m,h]
theorem u4{c:Int}{d:Nat}(h0:0≤c)(hd:0<d)(h:ef l d c=c):qL l c:=fun k=>by
 refine du (k:=k*d) (by rw[tw h];exact h0) ?_;exact Nat.le_mul_of_pos_right k hd
theorem oS(hl:dp l)(ae:t<l.length)(h:0≤ef l l.length t):qL l t:=by
 obtain⟨i,j,v,bc,he⟩:=xQ hl ae h;have hc:=du (j:=i) h ab;have hd:ef l (j - i) (ef l i t)=ef l i t:=by rw[←kT,show i+(j - i)=j by omega,he]
 have aV:=u4 hc ab hd;intro k;have:=aV k;rw[←kT] at this;exact du this ab
theorem qL.next(h:qL l t):qL l (qH l t):=fun k=>by
 have h0:=h 0;have:=h (k+1);rw[ef,if_neg (by exact Int.not_lt.2 h0)] at this;exact this
def nw(l:List Int):List Int:=((List.range l.length).map Int.ofNat).filter fun t=>decide (0≤ef l (l.length+1) t)
theorem kV(hl:dp l):t∈nw l↔0≤t∧t<l.length∧qL l t:=by
 unfold nw;rw[List.mem_filter];constructor
 ·rintro⟨ae,aC⟩;obtain⟨k,aj,rfl⟩:=Ke.1 ae;have b:=List.mem_range.1 aj;have a:0≤ef l (l.length+1) (Int.ofNat k):=by simpa using aC
  exact⟨Int.natCast_nonneg k,by show (k:Int)<_;omega,oS hl (by show (k:Int)<_;omega) (du a ab)⟩
 ·rintro⟨h0,ae,aC⟩;refine⟨Ke.2 ⟨t.toNat,List.mem_range.2 ab,by show ((t.toNat:Nat):Int)=t;omega⟩,by simpa using aC _⟩
def cF(l:List Int)(k:Nat)(t:Nat):Bool:=decide (t<l.length) && decide (0≤ef l k (t:Int))
def jt(l:List Int)(f:Nat→Bool)(t:Nat):Bool:=decide (t<l.length) && f t && decide (0≤qH l (t:Int)) && f (qH l (t:Int)).toNat
theorem mB(hl:dp l)(k t:Nat):jt l (cF l k) t=cF l (k+1) t:=by
 unfold jt cF;by_cases ht:t<l.length
 ·have hs:ef l (k+1) (t:Int)=ef l k (qH l t):=by rw[ef,if_neg ab]
  rw[hs];simp only[ht,decide_true,Bool.true_and];by_cases hn:0≤qH l (t:Int)
  ·have aw:=(m1 hl (t:Int)).2;have e:((qH l (t:Int)).toNat:Int)=qH l t:=ab;have dc:(qH l (t:Int)).toNat<l.length:=ab;rw[e];simp only[hn,dc,decide_true,Bool.and_true,Bool.true_and];by_cases aD:0≤ef l k (qH l (t:Int))
   ·have:0≤ef l k (t:Int):=du (k:=k+1) (by rw[hs];exact aD) ab;simp[aD,this]
   ·simp[aD]
  ·have aD:¬0≤ef l k (qH l (t:Int)):=fun h=>hn (du (j:=0) h (Kc _));simp[hn,aD]
 ·simp[ht]
theorem rB(hl:dp l){k:Nat}(h:∀t,t<l.length→cF l (k+1) t=cF l k t):∀m t,t<l.length→cF l (k+m) t=cF l k t
 | 0,t,_=>rfl
 | m+1,t,ht=>by
  have ao:=rB hl h m;rw[show k+(m+1)=(k+m)+1 by omega,←mB hl,←h t ht,←mB hl];unfold jt;have e1:∀t,t<l.length→cF l (k+m) t=cF l k t:=ao;rw[e1 t ht];by_cases hn:0≤qH l (t:Int)
  ·have aw:=(m1 hl (t:Int)).2;rw[e1 (qH l (t:Int)).toNat ab]
  ·simp[hn]
theorem ym(hl:dp l)(h:∀t,t<l.length→cF l (k+1) t=cF l k t){t:Nat}(ht:t<l.length):cF l k t=true↔(t:Int)∈nw l:=by
 rw[kV hl];have ae:=rB hl h l.length t ht;constructor
 ·intro aj;rw[aj] at ae;have aC:0≤ef l (k+l.length) (t:Int):=by simpa[cF,ht] using ae
  exact⟨ab,ab,oS hl ab (du aC ab)⟩
 ·rintro⟨_,_,aV⟩;simp[cF,ht,aV k]
theorem uc{t:Nat}(h:cF l (k+1) t=true):cF l k t=true:=by
 unfold cF at *;simp only[J2,Kk] at h ⊢;exact⟨h.1,du h.2 ab⟩
def iH(l:List Int)(t:Int):Option Nat:=(List.range l.length).find? fun m=>decide (ef l (m+1) t=t)
def xG(l:List Int):List Int:=
 match ((List.range l.length).map Int.ofNat).find? fun t=>(iH l t).isSome with
 | none=>[]
 | some t=>(List.range ((iH l t).getD 0+1)).map fun k=>ef l k t
end
theorem Sl.xb{w:World}{P:Nat→Prop}{A:Kr}{l:List Int}(h:Sl w P A n (l.map .i))(aj:k<n):
  ∃b o x,A=some ⟨b,o,none⟩∧P b∧l[k]?=some x∧w.cell? ⟨b,o+k,none⟩=some (.int .i64 x):=by
 obtain⟨b,o,x,cs,bk,O,hx,aU,hl,hc⟩:=Sl.gN (z:=1) h (fun _=>rfl) aj;simp only[D.rep] at aU;subst aU;exact⟨b,o,x,bk,O,hx,by have:=hc 0 _ rfl;simpa using this⟩
theorem jT(A A2:Kr)(n c n2 c2:Nat)(S T:List Int)(w:World)(hs:Sl w (au w) A n (S.map .i))(ht:Sl w (au w) A2 n2 (T.map .i))(hn:n≤140737488355328) :
  Calls prog 18 #[.slice A n c,.slice A2 n2 c2] w fun r ac=>r=.returned (.bool (decide (S=T)))∧Below w.heap.size w ac:=by
 have hl:S.length=n:=by have:=hs.1;simpa using this
 have am:T.length=n2:=by have:=ht.1;simpa using this
 by_cases a1:n=n2
 case neg=>
  have aX:=ad (show decide (S=T)=false from decide_eq_false (fun h=>a1 (by rw[←hl,←am,h])));have f:(n != n2)=true:=by simpa using a1
  have e:((n:Int) != (n2:Int))=true:=by simp;omega
  clear hl am a1;go_enter func18,ntmps18;go_wp2;go_ret;exact⟨ret_bool (by rw[aX.o]),Below.refl _ _⟩
 subst a1;obtain⟨bK,M⟩:=aM hl am;clear hl am;have L:((n:Int) != (n:Int))=false:=by simp
 go_enter func18,ntmps18;go_wp2;go_loopw [5] (fun i wr=>∃k:Nat,k≤n∧i=.int .i64 k∧(∀j,j<k→S[j]?=T[j]?)∧Below w.heap.size w wr) (fun i _=>n - (intOf i).toNat)
 case atStart=>exact⟨0,Kc _,rfl,fun j bc=>absurd bc ab,Below.refl _ _⟩
 case round=>
  obtain⟨k,aj,rfl,ca,O⟩:=hrel;have J:=ad ca;clear ca;by_cases aw:k<n
  ·obtain⟨b,o,x,rfl,an,hx,c0⟩:=(hs.on O).xb aw;obtain⟨R,aA,d,rfl,l,g,d0⟩:=(ht.on O).xb aw;have I:(0:Int)≤(k:Int):=ab;have cd:(k:Int)<(n:Int):=ab;by_cases hd:x=d
   ·have aP:=ad (show S[k]?=T[k]? by rw[hx,g,hd]);have G:(x != d)=false:=by simp[hd]
    clear hx g hd;go_wp2;go_quiet (fail)
    go_wp2;go_roundw
    case rel=>
     refine⟨k+1,ab,by go_num,fun j bc=>?_,dt O _⟩;exact yZ
    case measure=>exact aB
   ·have aX:=ad (show decide (S=T)=false from decide_eq_false (fun h=>by
     subst h;rw[hx] at g;injection g with g;exact hd g))
    have G:(x != d)=true:=by simp[hd]
    clear hx g hd;go_wp2;go_quiet (fail)
    go_wp2;go_ret;exact⟨ret_bool (by rw[aX.o]),dt O _⟩
  ·obtain rfl:k=n:=ab;have aX:=ad (show decide (S=T)=true from decide_eq_true (by
    apply List.ext_getElem?
    intro j;by_cases bc:j<k
    ·exact J.o j bc
    ·rw[List.getElem?_eq_none (aH bK.o),List.getElem?_eq_none (aH M.o)]))
   exact s9
theorem xT(A:Kr)(n c:Nat)(S:List Int)(br:Int)(w:World)(hs:Sl w (au w) A n (S.map .i))(hn:n≤140737488355328) :
  Calls prog 122 #[.slice A n c,.int .i64 br] w fun r ac=>r=.returned (.bool (decide (br∈S)))∧Below w.heap.size w ac:=by
 have hl:S.length=n:=by have:=hs.1;simpa using this
 have bK:=ad hl;clear hl;go_enter func122,ntmps122;go_wp2;go_loopw [5] (fun i wr=>∃k:Nat,k≤n∧i=.int .i64 k∧(∀j,j<k→S[j]?≠some br)∧Below w.heap.size w wr) (fun i _=>n - (intOf i).toNat)
 case atStart=>exact⟨0,Kc _,rfl,fun j bc=>absurd bc ab,Below.refl _ _⟩
 case round=>
  obtain⟨k,aj,rfl,ca,O⟩:=hrel;have J:=ad ca;clear ca;by_cases aw:k<n
  ·obtain⟨b,o,x,rfl,an,hx,c0⟩:=(hs.on O).xb aw;have I:(0:Int)≤(k:Int):=ab;have cd:(k:Int)<(n:Int):=ab;by_cases hd:x=br
   ·have aX:=ad (show decide (br∈S)=true from decide_eq_true (hd▸JT hx));have G:(x == br)=true:=by simp[hd]
    clear hx hd;exact s9
   ·have aP:=ad (show S[k]?≠some br by rw[hx];intro h;injection h with h;exact hd h);have G:(x == br)=false:=by simp[hd]
    clear hx hd;go_wp2;go_roundw
    case rel=>
     refine⟨k+1,ab,by go_num,fun j bc=>?_,O⟩;exact yZ
    case measure=>exact aB
  ·obtain rfl:k=n:=ab;have aX:=ad (show decide (br∈S)=false from decide_eq_false (fun h=>by
    obtain⟨j,bc,he⟩:=List.mem_iff_getElem.1 h;exact J.o j (aH bK.o) (by rw[List.getElem?_eq_getElem bc,he])))
   exact s9
theorem x8(Q:Int)(A:Kr)(n c:Nat)(L:List Int)(p:bC)(q:List Value)(sl:Value)(w:World)(hs:Sl w (au w) A n (L.map .i))(hn:n≤140737488355328)(hp:p.param=true→0≤p.index∧p.index<n) :
  Calls prog 121 #[.agg #[.int .i64 Q,.slice A n c],.agg #[.bool p.param,.int .i64 p.index,sl]] w fun r ac=>r=.returned (.int .i64 (if p.param then L.getD p.index.toNat 0 else p.index))∧Ext w ac:=by
 obtain⟨pm,i,a⟩:=p;simp only at hp ⊢;cases pm
 ·go_enter func121,ntmps121;go_wp2;go_ret;exact⟨rfl,(Kn.alloc _).alloc _⟩
 ·obtain⟨h0,ae⟩:=hp rfl;obtain⟨k,rfl⟩:=JV h0;have aj:k<n:=ab;obtain⟨b,o,x,rfl,an,hx,c0⟩:=hs.xb aj;have aP:=ad (show L.getD (Int.toNat k) 0=x by rw[List.getD_eq_getElem?_getD,Kb,hx];rfl);clear hx;suffices aQ:Calls prog 121 #[.agg #[.int .i64 Q,.slice (some ⟨b,o,none⟩) n c],.agg #[.bool true,.int .i64 (k:Int),sl]] w fun r ac=>r=.returned (.int .i64 x)∧Ext w ac from
   aQ.mono fun e aN ae=>⟨ae.1.trans (by rw[←aP.o];simp),ae.2⟩
  go_enter func121,ntmps121;go_wp2;go_ret;exact⟨rfl,(Kn.alloc _).alloc _⟩
def jg(n:Nat):List UInt8:=if n<10 then [UInt8.ofNat (48+n)] else jg (n / 10)++[UInt8.ofNat (48+n % 10)]
 termination_by n
theorem l8(d:Nat)(h:d<10):(UInt8.ofNat (48+d)).toNat=48+d:=by simp;omega
theorem tk(n:Nat):(jg n).all bm=true∧∃c l,jg n=c::l:=by
 induction n using Nat.strongRecOn with
 | _ n ao=>
  rw[jg];split
  ·rename_i h;refine⟨?_,_,_,rfl⟩;simp only[List.all_cons,List.all_nil,Bool.and_true,bm,l8 n h,J2,Kk];omega
  ·obtain⟨ae,c,l,aC⟩:=ao (n / 10) ab;refine⟨?_,c,l++[UInt8.ofNat (48+n % 10)],by rw[aC];rfl⟩;simp only[List.all_append,ae,List.all_cons,List.all_nil,Bool.and_true,Bool.true_and,bm,l8 (n % 10) ab,J2,Kk];omega
theorem rp:∀(cF N:List UInt8) (n:Int),0≤n→cF.all bm=true→im n (cF++N)=if im n cF<0 then -1 else im (im n cF) N
 | [],N,n,hn,_=>by
  have h0:im n []=n:=rfl
  rw[Kg,h0,if_neg ab]
 | c::cF,N,n,hn,h=>by
  simp only[List.all_cons,J2] at h;have hd:48≤c.toNat:=by have:=h.1;simp only[bm,J2,Kk] at this;exact this.1
  simp only[J5,im];split
  ·simp
  ·exact rp cF N _ ab h.2
theorem ya(n:Nat)(h:n≤9223372036854775807):pL (jg n)=n:=by
 unfold pL
 induction n using Nat.strongRecOn with
 | _ n ao=>
  rw[jg];split
  ·rename_i h;simp only[im,l8 n h];rw[if_neg ab];omega
  ·have i:=ao (n / 10) ab ab;rw[rp _ _ _ ab (tk _).1,i,if_neg ab];simp only[im,l8 (n % 10) ab];rw[if_neg ab];omega
def Atom.last(aS:List Atom):Option Atom:=aS.getLast?
theorem dU:∀(aS f:List Atom),Atom.chain aS→Atom.chain f→(∀a b,aS.getLast?=some a→f.head?=some b→a.fits b)→Atom.chain (aS++f)
 | [],f,_,O,_=>O
 | [a],[],aV,_,_=>aV
 | [a],b::f,aV,O,aD=>⟨aV,aD a b rfl rfl,O⟩
 | a::r::aS,f,aV,O,aD=>by
  have ao:=dU (r::aS) f aV.2.2 O (fun x y hx a4=>aD x y (by rw[List.getLast?_cons_cons];exact hx) a4);exact⟨aV.1,aV.2.1,ao⟩
theorem count_append:∀(aS f:List Atom),Atom.count (aS++f)=Atom.count aS+Atom.count f
 | [],f=>by simp[Atom.count]
 | a::aS,f=>by
  have ao:=count_append aS f;cases a<;>simp only[J5,Atom.count,ao]<;>omega
def aR(aS:List Atom):List UInt8:=aS.flatMap Atom.bytes
theorem aY(aS f:List Atom):aR (aS++f)=aR aS++aR f:=List.flatMap_append
theorem aX(a:Atom)(f:List Atom):aR (a::f)=a.bytes++aR f:=Ka
theorem oG(c:UInt8)(b:Atom):(Atom.ws c).fits b:=⟨fun h=>by simp[Atom.j9] at h,fun s h=>by cases h⟩
theorem oo(a:Atom)(c:UInt8)(h:oF c=true):a.fits (.ws c):=by
 refine⟨fun _=>rfl,fun s _ _ d hd=>?_⟩;simp only[Atom.head,Ki] at hd;subst hd;have key:∀s∈ey,∀d:UInt8,(d=32∨d=9∨d=10∨d=13)→(s++[d])∉eY∧¬(s=[47]∧d=47):=by
  intro s hs d hd;rcases hd with rfl|rfl|rfl|rfl<;>revert s<;>decide
 refine key s (by assumption) c ?_;simp only[oF,Bool.or_eq_true,beq_iff_eq] at h;rcases h with((h|h)|h)|h<;>simp[h]
theorem wV(a b:Atom)(aV:a.j9=true)(O:b.j9=false):a.fits b:=⟨fun _=>O,fun s h=>by subst h;simp[Atom.j9] at aV⟩
def sN(a:Atom):Prop:=a.j9=true∧a.fF∨a=.sg [45]∨a=.sg [33]∨a=.sg [40]
def FO(a:Atom):Prop:=a.j9=true∨a=.sg [41]∨a=.sg [93]
theorem Eh(a:Atom)(h:a.j9=true)(aJ:a.fF)(c:UInt8)(hc:a.head=some c):bV c=true:=by
 cases a with
 | ws _=>simp[Atom.j9] at h
 | sg _=>simp[Atom.j9] at h
 | word s=>
  obtain⟨⟨d,l,rfl,ae,_⟩,_⟩:=aJ;simp only[Atom.head,List.head?_cons,Ki] at hc;subst hc
  simp[bV,ae]
 | num s=>
  obtain⟨⟨d,l,rfl⟩,ae,_⟩:=aJ;simp only[Atom.head,List.head?_cons,Ki] at hc;subst hc;simp only[List.all_cons,J2] at ae;simp[bV,ae.1]
theorem m9(s:List UInt8)(hs:s=[45]∨s=[33]∨s=[40]∨s=[91])(b:Atom)(O:sN b):(Atom.sg s).fits b:=by
 refine⟨fun h=>by simp[Atom.j9] at h,fun t ht _ c hc=>?_⟩;injection ht with ht;subst ht;have Z:bV c=true∨c=45∨c=33∨c=40:=by
  rcases O with⟨ae,aC⟩|rfl|rfl|rfl
  ·exact .inl (Eh b ae aC c hc)
  all_goals simp[Atom.head] at hc;subst hc;simp
 have a1:c≠61∧c≠38∧c≠124∧c≠47:=by
  rcases Z with h|rfl|rfl|rfl
  ·refine⟨?_,?_,?_,?_⟩<;>(rintro rfl;revert h;decide)
  all_goals decide
 rcases hs with rfl|rfl|rfl|rfl<;>simp[eY,a1]
theorem oj(a:Atom)(aV:FO a)(s:List UInt8)(hs:s=[41]∨s=[93]∨s=[59]∨s=[44]):a.fits (.sg s):=by
 rcases aV with h|rfl|rfl
 ·exact wV _ _ h rfl
 all_goals
  refine⟨fun h=>by simp[Atom.j9] at h,fun t ht _ c hc=>?_⟩;injection ht with ht;subst ht;rcases hs with rfl|rfl|rfl|rfl<;>(simp[Atom.head] at hc;subst hc;decide)
def aU:VE→Int
 | .num _=>1
 | .gy _=>2
 | .loc _=>18
 | .ia _=>19
 | .un op _=>op
 | .bin op _ _=>op
def cK(op:Int):Int:=if op=17 then 0 else if op=16 then 1 else if 10≤op∧op≤15 then 2 else if op=8∨op=9 then 3 else if 5≤op∧op≤7 then 4 else if op=3∨op=4 then 5 else 6
def dn(op arg:Int)(second:Bool):Bool:=decide (cK arg<cK op) || (cK arg == cK op && second)
def gF(op:Int):List UInt8:=
 if op=5 then [42] else if op=6 then [47] else if op=7 then [37] else if op=8 then [43] else if op=9 then [45] else if op=10 then [60] else if op=11 then [60,61]
 else if op=12 then [62] else if op=13 then [62,61] else if op=14 then [61,61] else if op=15 then [33,61] else if op=16 then [38,38] else [124,124]
def par(b:Bool)(aS:List Atom):List Atom:=if b then .sg [40]::(aS++[.sg [41]]) else aS
def b1:VE→List Atom
 | .num n=>[.num (jg n.toNat)]
 | .gy s=>[.word s.data.toList]
 | .loc _=>[]
 | .ia _=>[]
 | .un op x=>.sg (if op=3 then [45] else [33])::par (dn op (aU x) false) (b1 x)
 | .bin op x y=>par (dn op (aU x) false) (b1 x)++(.ws 32::.sg (gF op)::.ws 32::par (dn op (aU y) true) (b1 y))
def VE.src(N:Ks):Nat→VE→Prop
 | _,.num n=>0≤n∧n<4611686018427387904
 | _,.gy s=>s∈N
 | _,.loc _=>False
 | _,.ia _=>False
 | 0,.un _ _=>False
 | 0,.bin _ _ _=>False
 | d+1,.un op x=>(op=3∨op=4)∧VE.src N d x
 | d+1,.bin op x y=>(5≤op∧op≤17)∧VE.src N d x∧VE.src N d y
def dx(N:Ks):Prop:=∀s∈N,bp s.data.toList=true
structure k5(aS:List Atom):Prop where
 chain:Atom.chain aS
 first:∃a,aS.head?=some a∧sN a
 last:∃a,aS.getLast?=some a∧FO a
theorem getLast_append{aS f:List Atom}(h:f.getLast?=some a):(aS++f).getLast?=some a:=by
 rw[List.getLast?_append,h];rfl
theorem head_append{aS f:List Atom}(h:aS.head?=some a):(aS++f).head?=some a:=by
 rw[List.head?_append,h];rfl
theorem cH{aS:List Atom}(aV:a.fF)(h:Atom.chain aS)(aD:∀b,aS.head?=some b→a.fits b):Atom.chain (a::aS):=
 dU [a] aS aV h fun x b hx O=>by
  simp at hx;subst hx;exact aD b O
theorem bZ(h:s∈ey∨s∈eY):(Atom.sg s).fF:=h.symm
theorem k5.par{aS:List Atom}(h:k5 aS)(b:Bool):k5 (par b aS):=by
 cases b
 ·exact h
 ·obtain⟨a,aV,hs⟩:=h.first;obtain⟨z,bi,he⟩:=h.last;refine⟨?_,⟨_,rfl,.inr (.inr (.inr rfl))⟩,⟨.sg [41],?_,.inr (.inl rfl)⟩⟩
  ·refine cH (bZ (.inl (by decide))) (dU _ _ h.chain (bZ (.inl (by decide))) fun x y hx a4=>?_) fun y a4=>?_
   ·rw[bi] at hx;injection hx with hx;subst hx;simp at a4;subst a4;exact oj _ he _ (.inl rfl)
   ·rw[head_append aV] at a4;injection a4 with a4;subst a4;exact m9 _ (.inr (.inr (.inl rfl))) _ hs
  ·show (Atom.sg [40]::(aS++[Atom.sg [41]])).getLast?=some (.sg [41])
   rw[←List.cons_append];exact getLast_append rfl
theorem vW(op:Int):gF op∈ey∨gF op∈eY:=by
 unfold gF
 repeat' split
 all_goals first|exact .inl (by decide)|exact .inr (by decide)
theorem ds(h:bp s=true):(Atom.word s).fF:=by
 cases s with
 | nil=>simp[bp] at h
 | cons c l=>
  simp only[bp,J2,Kk] at h;exact⟨⟨c,l,rfl,h.1.1.1,h.1.1.2⟩,.inr h.1.2⟩
theorem pN(h:n≤9223372036854775807):(Atom.num (jg n)).fF:=by
 obtain⟨ae,aC⟩:=tk n;exact⟨aC,ae,by rw[ya n h];omega⟩
theorem DB{aS:List Atom}(hs:s=[45]∨s=[33])(h:k5 aS):k5 (.sg s::aS):=by
 obtain⟨a,aV,a5⟩:=h.first;obtain⟨z,bi,he⟩:=h.last;refine⟨cH (bZ (.inl (by rcases hs with rfl|rfl<;>decide))) h.chain fun b O=>?_,⟨_,rfl,by rcases hs with rfl|rfl<;>simp[sN]⟩,⟨z,?_,he⟩⟩
 ·rw[aV] at O;injection O with O;subst O;exact m9 _ (by rcases hs with rfl|rfl<;>simp) _ a5
 ·show ([Atom.sg s]++aS).getLast?=some z
  exact getLast_append bi
theorem dT{N:Ks}(hN:dx N):∀(d:Nat) (x:VE),x.src N d→k5 (b1 x)
 | d,.num n,h=>by
  have q:0≤n∧n<4611686018427387904:=by cases d<;>exact h
  have aJ:=pN (n:=n.toNat) ab
  exact⟨aJ,⟨_,rfl,.inl ⟨rfl,aJ⟩⟩,⟨_,rfl,.inl rfl⟩⟩
 | d,.gy s,h=>by
  have q:s∈N:=by cases d<;>exact h
  have aJ:=ds (hN s q)
  exact⟨aJ,⟨_,rfl,.inl ⟨rfl,aJ⟩⟩,⟨_,rfl,.inl rfl⟩⟩
 | d,.loc _,h=>by cases d<;>exact h.elim
 | d,.ia _,h=>by cases d<;>exact h.elim
 | 0,.un _ _,h=>h.elim
 | 0,.bin _ _ _,h=>h.elim
 | d+1,.un op x,h=>by
  unfold b1
  exact DB (by split<;>simp) ((dT hN d x h.2).par (dn op (aU x) false))
 | d+1,.bin op x y,h=>by
  have i:=(dT hN d x h.2.1).par (dn op (aU x) false);have c:=(dT hN d y h.2.2).par (dn op (aU y) true);unfold b1;generalize par (dn op (aU x) false) (b1 x)=aS at *;generalize par (dn op (aU y) true) (b1 y)=f at *;obtain⟨a,aV,a5⟩:=i.first;obtain⟨z,bi,he⟩:=c.last;refine⟨dU _ _ i.chain ?_ ?_,⟨a,head_append aV,a5⟩,⟨z,getLast_append ?_,he⟩⟩
  ·refine cH rfl (cH (bZ (vW op)) (cH rfl c.chain fun b _=>oG _ b) fun b O=>?_) fun b _=>oG _ b;simp at O;subst O;exact oo _ _ rfl
  ·intro x y _ a4;simp at a4;subst a4;exact oo _ _ rfl
  ·show ([Atom.ws 32,Atom.sg (gF op),Atom.ws 32]++f).getLast?=some z
   exact getLast_append bi
structure Env where
 ae:List bA
 params:List (ByteArray×Bool)
 funcs:List (ByteArray×List (ByteArray×Bool))
def rH(G:Env)(V:Ks)(r:eF):Prop:=
 (∃m∈G.ae,m.name=r.name∧(0<m.size→∃e,r.idx=some e∧e.src V 2)∧(¬0<m.size→r.idx=none))∨((r.name,true)∈G.params∧r.idx=none)
def HZ(G:Env)(V:Ks)(p:ByteArray×Bool):da→Prop
 | .mx r=>p.2=true∧rH G V r
 | .ex e=>p.2=false∧e.src V 2
def iz(G:Env)(V:Ks):List (ByteArray×Bool)→List da→Prop
 | [],[]=>True
 | p::ps,a::aS=>HZ G V p a∧iz G V ps aS
 | _,_=>False
def eN(G:Env):(d:Nat)→(V T:Ks)→al→Prop
 | _,_,_,.nil=>True
 | d,V,T,.set true n e rest=>bp n.data.toList=true∧n∉T∧e.src V 2∧eN G d (V++[n]) (T++[n]) rest
 | d,V,T,.set false n e rest=>n∈V∧e.src V 2∧eN G d V T rest
 | d,V,T,.call _ n aS rest=>(∃ps,(n,ps)∈G.funcs∧iz G V ps aS)∧eN G d V T rest
 | d,V,T,.lock _ r rest=>rH G V r∧eN G d V T rest
 | 0,_,_,.ite ..=>False
 | 0,_,_,.gb ..=>False
 | d+1,V,T,.ite e th el rest=>e.src V 2∧eN G d V T th∧eN G d V T el∧eN G (d+1) V T rest
 | d+1,V,T,.gb e th rest=>e.src V 2∧eN G d V T th∧eN G (d+1) V T rest
 | d,V,T,.ret rest=>eN G d V T rest
def al.isNil:al→Bool
 | .nil=>true
 | _=>false
def al.num:al→Nat
 | .nil=>0
 | .set _ _ _ rest=>rest.num+1
 | .call _ _ _ rest=>rest.num+1
 | .lock _ _ rest=>rest.num+1
 | .ite _ th el rest=>th.num+el.num+rest.num+1
 | .gb _ th rest=>th.num+rest.num+1
 | .ret rest=>rest.num+1
def kw(s:List UInt8):Atom:=.word s
def h4(r:eF):List Atom:=.word r.name.data.toList::(match r.idx with|none=>[]|some e=>.sg [91]::(b1 e++[.sg [93]]))
def fy:List UInt8:=[109,117,116,101,120]
def fj:da→List Atom
 | .mx r=>kw fy::.ws 32::h4 r
 | .ex e=>b1 e
def dN:List (List Atom)→List Atom
 | []=>[]
 | [a]=>a
 | a::b::l=>a++(.sg [44]::.ws 32::dN (b::l))
def iG(aS:List da):List Atom:=.sg [40]::(dN (aS.map fj)++[.sg [41]])
def fa(n:Nat):List Atom:=List.replicate n (.ws 9)
def aT:Nat→al→List Atom
 | _,.nil=>[]
 | t,.set v n e rest=>fa t++((if v then [kw [118,97,114],.ws 32] else [])++(.word n.data.toList::.ws 32::.sg [61]::.ws 32::(b1 e++(.sg [59]::.ws 10::aT t rest))))
 | t,.call g n aS rest=>fa t++((if g then [kw [103,111],.ws 32] else [])++(.word n.data.toList::(iG aS++(.sg [59]::.ws 10::aT t rest))))
 | t,.lock u r rest=>fa t++(kw (if u then [117,110,108,111,99,107] else [108,111,99,107])::.ws 32::(h4 r++(.sg [59]::.ws 10::aT t rest)))
 | t,.ite e th el rest=>fa t++(kw [105,102]::.ws 32::(b1 e++(.ws 32::.sg [123]::.ws 10::(aT (t+1) th++(fa t++(.sg [125] ::
   ((if el.isNil then [] else .ws 32::kw [101,108,115,101]::.ws 32::.sg [123]::.ws 10::(aT (t+1) el++(fa t++[.sg [125]])))++(.ws 10::aT t rest))))))))
 | t,.gb e th rest=>fa t++(kw [119,104,105,108,101]::.ws 32::(b1 e++(.ws 32::.sg [123]::.ws 10::(aT (t+1) th++(fa t++(.sg [125]::.ws 10::aT t rest))))))
 | t,.ret rest=>fa t++(kw [114,101,116,117,114,110]::.sg [59]::.ws 10::aT t rest)
theorem fh(h:s∈sX):(kw s).fF:=by
 have key:∀s∈sX,(match s with|[]=>false|c::l=>bM c && l.all bV)=true:=by decide
 have:=key s h
 cases s with
 | nil=>cases this
 | cons c l=>
  simp only[J2] at this;exact⟨⟨c,l,rfl,this.1,this.2⟩,.inl (by simpa[dr] using h)⟩
section
variable {aS f:List Atom}
theorem cQ(hc:oF c=true)(h:Atom.chain aS):Atom.chain (.ws c::aS):=cH hc h fun b _=>oG c b
theorem bP(aV:a.fF)(hc:oF c=true)(h:Atom.chain (.ws c::aS)):Atom.chain (a::.ws c::aS):=
 cH aV h fun b O=>by
  simp at O;subst O;exact oo _ _ hc
theorem h5(aV:a.fF)(hl:a.j9=true)(h:Atom.chain (.sg s::aS)):Atom.chain (a::.sg s::aS):=
 cH aV h fun b O=>by
  simp at O;subst O;exact wV _ _ hl rfl
theorem eP(ae:k5 aS)(hs:s=[41]∨s=[93]∨s=[59]∨s=[44])(h:Atom.chain (.sg s::f)):Atom.chain (aS++.sg s::f):=
 dU _ _ ae.chain h fun a b aV O=>by
  obtain⟨z,bi,he⟩:=ae.last;rw[bi] at aV;injection aV with aV;subst aV;simp at O;subst O;exact oj _ he _ hs
theorem qU(ae:Atom.chain aS)(hc:oF c=true)(h:Atom.chain (.ws c::f)):Atom.chain (aS++.ws c::f):=
 dU _ _ ae h fun a b _ O=>by
  simp at O;subst O;exact oo _ _ hc
theorem oh(hs:s=[40]∨s=[91])(ae:k5 aS)(h:Atom.chain (aS++f)):Atom.chain (.sg s::(aS++f)):=
 cH (bZ (.inl (by rcases hs with rfl|rfl<;>decide))) h fun b O=>by
  obtain⟨a,aV,a5⟩:=ae.first;rw[head_append aV] at O;injection O with O;subst O;exact m9 _ (by rcases hs with rfl|rfl<;>simp) _ a5
def hi(aS:List Atom):Prop:=Atom.chain aS∧∀a,aS.getLast?=some a→∃c,a=.ws c
theorem hi.app(h:hi aS)(O:Atom.chain f):Atom.chain (aS++f):=
 dU _ _ h.1 O fun a b aV _=>by
  obtain⟨c,rfl⟩:=h.2 a aV;exact oG _ _
theorem fZ(n:Nat):hi (fa n):=by
 induction n with
 | zero=>exact⟨trivial,fun a h=>by simp[fa] at h⟩
 | succ n ao=>
  refine⟨cQ rfl ao.1,fun a h=>?_⟩;simp only[fa,List.getLast?_replicate] at h;simp at h;exact⟨9,h.symm⟩
theorem tD{l:List Atom}(h:∀a,m.getLast?=some a→∃c,a=.ws c)(hm:m≠[])(aV:(l++m).getLast?=some a):∃c,a=.ws c:=by
 rw[List.getLast?_append] at aV
 cases hl:m.getLast? with
 | none=>exact absurd (List.getLast?_eq_none_iff.1 hl) hm
 | some b=>
  rw[hl] at aV;simp at aV;subst aV;exact h _ hl
end
theorem oX{G:Env}{V:Ks}(hV:dx V)(hM:∀m∈G.ae,bp m.name.data.toList=true)(aY:∀p∈G.params,bp p.1.data.toList=true)(r:eF)(h:rH G V r):k5 (h4 r):=by
 have hn:(Atom.word r.name.data.toList).fF:=by
  rcases h with⟨m,hm,he,_⟩|⟨hp,_⟩
  ·rw[←he];exact ds (hM m hm)
  ·exact ds (aY _ hp)
 unfold h4
 cases al:r.idx with
 | none=>exact⟨hn,⟨_,rfl,.inl ⟨rfl,hn⟩⟩,⟨_,rfl,.inl rfl⟩⟩
 | some e=>
  have hs:e.src V 2:=by
   exact Fv
  have ao:=dT hV 2 e hs;refine⟨h5 hn rfl (oh (.inr rfl) ao (eP ao (.inr (.inl rfl)) (bZ (.inl (by decide))))),⟨_,rfl,.inl ⟨rfl,hn⟩⟩,⟨.sg [93],?_,.inr (.inr rfl)⟩⟩;show ((Atom.word r.name.data.toList::.sg [91]::b1 e)++[Atom.sg [93]]).getLast?=_
  exact getLast_append rfl
theorem mY:∀(l:List (List Atom)),(∀a∈l,k5 a)→l≠[]→k5 (dN l)
 | [],_,h=>absurd rfl h
 | [a],h,_=>h a (by simp)
 | a::b::l,h,_=>by
  have ao:=mY (b::l) (fun x hx=>h x (by simp[hx])) (by simp);have aV:=h a (by simp);obtain⟨x,hx,hs⟩:=aV.first;obtain⟨z,bi,he⟩:=ao.last;refine⟨eP aV (.inr (.inr (.inr rfl))) (bP (bZ (.inl (by decide))) rfl (cQ rfl ao.chain)),⟨x,head_append hx,hs⟩,⟨z,?_,he⟩⟩;show (a++([Atom.sg [44],Atom.ws 32]++dN (b::l))).getLast?=some z
  exact getLast_append (getLast_append bi)
section
variable {G:Env} {V:Ks} (hV:dx V) (hM:∀m∈G.ae,bp m.name.data.toList=true) (aY:∀p∈G.params,bp p.1.data.toList=true)
include hV hM aY
theorem va(p:ByteArray×Bool)(a:da)(h:HZ G V p a):k5 (fj a):=by
 cases a with
 | ex e=>exact dT hV 2 e h.2
 | mx r=>
  have ao:=oX hV hM aY r h.2;have aj:(kw fy).fF:=fh (by decide);obtain⟨z,bi,he⟩:=ao.last;refine⟨bP aj rfl (cQ rfl ao.chain),⟨_,rfl,.inl ⟨rfl,aj⟩⟩,⟨z,?_,he⟩⟩;show ([kw fy,Atom.ws 32]++h4 r).getLast?=some z
  exact getLast_append bi
theorem uz:∀(ps:List (ByteArray×Bool)) (aS:List da),iz G V ps aS→(∀a∈aS.map fj,k5 a)∧aS.length=ps.length
 | [],[],_=>⟨fun a h=>by simp at h,rfl⟩
 | p::ps,a::aS,h=>by
  obtain⟨ae,aC⟩:=uz ps aS h.2;refine⟨fun x hx=>?_,by simp[aC]⟩;simp only[JW,J6] at hx;rcases hx with rfl|hx
  ·exact va hV hM aY p a h.1
  ·exact ae x hx
 | [],_::_,h=>h.elim
 | _::_,[],h=>h.elim
theorem qA(ps:List (ByteArray×Bool))(aS:List da)(h:iz G V ps aS){f:List Atom}(O:Atom.chain (.sg [59]::f)):Atom.chain (iG aS++.sg [59]::f):=by
 have r:Atom.chain (.sg [41]::.sg [59]::f):=cH (bZ (.inl (by decide))) O fun b O=>by
  simp at O;subst O;exact oj _ (.inr (.inl rfl)) _ (.inr (.inr (.inl rfl)))
 obtain⟨ae,_⟩:=uz hV hM aY ps aS h
 cases aS with
 | nil=>
  refine cH (bZ (.inl (by decide))) r fun b O=>?_
  exact Fz
 | cons a l=>
  have ao:=mY ((a::l).map fj) ae (by simp);show Atom.chain (Atom.sg [40]::((dN ((a::l).map fj)++[Atom.sg [41]])++Atom.sg [59]::f))
  rw[J4];exact oh (.inl rfl) ao (eP ao (.inl rfl) r)
end
def k7(l:List Atom):Prop:=l≠[]∧∀a,l.getLast?=some a→∃c,a=.ws c
theorem k7.cons{x:Atom}{l:List Atom}(h:k7 l):k7 (x::l):=
 ⟨by simp,fun a aV=>tD (l:=[x]) h.2 h.1 (by simpa using aV)⟩
theorem k7.app{l:List Atom}(h:k7 m):k7 (l++m):=
 ⟨by have:=h.1;simp[this],fun a aV=>tD h.2 h.1 aV⟩
theorem k7.nl{l:List Atom}(h:∀a,l.getLast?=some a→∃c,a=.ws c):k7 (.ws 10::l):=by
 refine⟨by simp,fun a aV=>?_⟩
 cases l with
 | nil=>simp at aV;exact⟨10,aV.symm⟩
 | cons x l=>exact h a (by rw[List.getLast?_cons_cons] at aV;exact aV)
theorem dB:∀(b:al) (t:Nat) (a:Atom),(aT t b).getLast?=some a→∃c,a=.ws c
 | .nil,t,a,h=>by simp[aT] at h
 | .set v n e rest,t,a,h=>by
  unfold aT at h
  exact(k7.app (.app (.cons (.cons (.cons (.cons (.app (.cons (.nl (dB rest t)))))))))).2 a h
 | .call g n aS rest,t,a,h=>by
  unfold aT at h
  exact(k7.app (.app (.cons (.app (.cons (.nl (dB rest t))))))).2 a h
 | .lock u r rest,t,a,h=>by
  unfold aT at h
  exact(k7.app (.cons (.cons (.app (.cons (.nl (dB rest t))))))).2 a h
 | .ite e th el rest,t,a,h=>by
  unfold aT at h
  exact(k7.app (.cons (.cons (.app (.cons (.cons (.cons (.app (.app (.cons (.app (.nl (dB rest t))))))))))))).2 a h
 | .gb e th rest,t,a,h=>by
  unfold aT at h
  exact(k7.app (.cons (.cons (.app (.cons (.cons (.cons (.app (.app (.cons (.nl (dB rest t)))))))))))).2 a h
 | .ret rest,t,a,h=>by
  unfold aT at h;exact(k7.app (.cons (.cons (.nl (dB rest t))))).2 a h
structure nt(G:Env):Prop where
 ae:∀m∈G.ae,bp m.name.data.toList=true
 params:∀p∈G.params,bp p.1.data.toList=true
 funcs:∀f∈G.funcs,bp f.1.data.toList=true∧f.2.length≤2
theorem jP{V:Ks}{n:ByteArray}(h:dx V)(hn:bp n.data.toList=true):dx (V++[n]):=by
 intro s hs;simp only[JZ,Kh] at hs;rcases hs with hs|rfl
 ·exact h s hs
 ·exact hn
theorem cM{G:Env}(hG:nt G):∀(b:al) (d t:Nat) (V T:Ks),dx V→eN G d V T b→Atom.chain (aT t b)
 | .nil,d,t,V,T,_,_=>trivial
 | .set v n e rest,d,t,V,T,hV,h=>by
  have a:(Atom.sg [59]).fF:=bZ (.inl (by decide));have f:(Atom.sg [61]).fF:=bZ (.inl (by decide));unfold aT
  cases v with
  | true=>
   have q:bp n.data.toList=true∧n∉T∧e.src V 2∧eN G d (V++[n]) (T++[n]) rest:=by cases d<;>exact h
   have ao:=cM hG rest d t _ _ (jP hV q.1) q.2.2.2;have aF:=dT hV 2 e q.2.2.1
   exact(fZ t).app (bP (fh (by decide)) rfl (cQ rfl (bP (ds q.1) rfl (cQ rfl (bP f rfl (cQ rfl (eP aF (.inr (.inr (.inl rfl))) (bP a rfl (cQ rfl ao)))))))))
  | false=>
   have q:n∈V∧e.src V 2∧eN G d V T rest:=by cases d<;>exact h
   have ao:=cM hG rest d t _ _ hV q.2.2;have aF:=dT hV 2 e q.2.1
   exact(fZ t).app (bP (ds (hV n q.1)) rfl (cQ rfl (bP f rfl (cQ rfl (eP aF (.inr (.inr (.inl rfl))) (bP a rfl (cQ rfl ao)))))))
 | .call g n aS rest,d,t,V,T,hV,h=>by
  have q:(∃ps,(n,ps)∈G.funcs∧iz G V ps aS)∧eN G d V T rest:=by cases d<;>exact h
  obtain⟨⟨ps,aD,has⟩,aU⟩:=q;have ao:=cM hG rest d t _ _ hV aU;have a:(Atom.sg [59]).fF:=bZ (.inl (by decide));have bk:=qA hV hG.ae hG.params ps aS has (bP a rfl (cQ (c:=10) rfl ao));have bg:Atom.chain (.word n.data.toList::(iG aS++(.sg [59]::.ws 10::aT t rest))):=h5 (ds (hG.funcs _ aD).1) rfl bk;unfold aT
  cases g with
  | true=>exact(fZ t).app (bP (fh (by decide)) rfl (cQ rfl bg))
  | false=>exact(fZ t).app bg
 | .lock u r rest,d,t,V,T,hV,h=>by
  have q:rH G V r∧eN G d V T rest:=by cases d<;>exact h
  have ao:=cM hG rest d t _ _ hV q.2;have b8:=oX hV hG.ae hG.params r q.1;have a:(Atom.sg [59]).fF:=bZ (.inl (by decide));unfold aT
  exact(fZ t).app (bP (fh (by cases u<;>decide)) rfl (cQ rfl (eP b8 (.inr (.inr (.inl rfl))) (bP a rfl (cQ rfl ao)))))
 | .ite e th el rest,0,t,V,T,hV,h=>h.elim
 | .gb e th rest,0,t,V,T,hV,h=>h.elim
 | .ite e th el rest,d+1,t,V,T,hV,h=>by
  have j:=cM hG th d (t+1) _ _ hV h.2.1;have o:=cM hG el d (t+1) _ _ hV h.2.2.1;have ao:=cM hG rest (d+1) t _ _ hV h.2.2.2;have aF:=dT hV 2 e h.1;have k:(Atom.sg [123]).fF:=bZ (.inl (by decide));have i:(Atom.sg [125]).fF:=bZ (.inl (by decide));have e1:hi (aT (t+1) th):=⟨j,dB th _⟩
  have e2:hi (aT (t+1) el):=⟨o,dB el _⟩
  have bB:Atom.chain (.ws 10::aT t rest):=cQ rfl ao;have tail:Atom.chain (.sg [125]::((if el.isNil then [] else .ws 32::kw [101,108,115,101]::.ws 32::.sg [123]::.ws 10::(aT (t+1) el++(fa t++[.sg [125]])))++(.ws 10::aT t rest))):=by
   have b0:Atom.chain (.sg [125]::((.ws 32::kw [101,108,115,101]::.ws 32::.sg [123]::.ws 10::(aT (t+1) el++(fa t++[.sg [125]])))++(.ws 10::aT t rest))):=by
    refine bP i rfl (cQ rfl (bP (fh (by decide)) rfl (cQ rfl (bP k rfl (cQ rfl ?_)))));show Atom.chain ((aT (t+1) el++(fa t++[Atom.sg [125]]))++(Atom.ws 10::aT t rest))
    rw[J4,J4];exact e2.app ((fZ t).app (bP i rfl bB))
   split
   ·exact bP i rfl bB
   ·exact b0
  unfold aT
  exact(fZ t).app (bP (fh (by decide)) rfl (cQ rfl (qU aF.chain rfl (cQ rfl (bP k rfl (cQ rfl (e1.app ((fZ t).app tail))))))))
 | .gb e th rest,d+1,t,V,T,hV,h=>by
  have j:=cM hG th d (t+1) _ _ hV h.2.1;have ao:=cM hG rest (d+1) t _ _ hV h.2.2;have aF:=dT hV 2 e h.1;have k:(Atom.sg [123]).fF:=bZ (.inl (by decide));have i:(Atom.sg [125]).fF:=bZ (.inl (by decide));have e1:hi (aT (t+1) th):=⟨j,dB th _⟩
  unfold aT
  exact(fZ t).app (bP (fh (by decide)) rfl (cQ rfl (qU aF.chain rfl (cQ rfl (bP k rfl (cQ rfl (e1.app ((fZ t).app (bP i rfl (cQ rfl ao))))))))))
 | .ret rest,d,t,V,T,hV,h=>by
  have q:eN G d V T rest:=by cases d<;>exact h
  have ao:=cM hG rest d t _ _ hV q;have a:(Atom.sg [59]).fF:=bZ (.inl (by decide));unfold aT;exact(fZ t).app (h5 (fh (by decide)) rfl (bP a rfl (cQ rfl ao)))
end Go.Proofs.YtbkhhfajcgkpgaaGreat
