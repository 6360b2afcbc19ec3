/- Part 6 of the proof. No condition of its own. -/
import Derived.Test.YtflecliffjbleaaGreatS05
namespace Go.Proofs.YtflecliffjbleaaGreat
open Go.RowKit Go.Proofs.Tryz
set_option maxRecDepth 1000000
set_option maxHeartbeats 25600000
set_option linter.unusedVariables false
variable{a:Atom}{t:Int}{m:List Atom}{s:List UInt8}{k n:Nat}{c:UInt8}
def rv(l:List Int)(t:Int):Int:=if t<0 then -1 else l.getD t.toNat (-1)
def eD(l:List Int):Nat->Int->Int
 | 0,t=>t
 | k+1,t=>if t<0 then t else eD l k (rv l t)
def dF(l:List Int):Prop:=∀x∈l,-1<=x/\x<l.length
section
variable {l:List Int}
theorem x8(h:t<0):∀k,eD l k t=t
 | 0=>rfl
 | k+1=>by rw[eD,if_pos h]
theorem lx:∀(a b:Nat) (t:Int),eD l (a+b) t=eD l b (eD l a t)
 | 0,b,t=>by rw[LW];rfl
 | a+1,b,t=>by
  rw[show a+1+b=(a+b)+1 by omega,eD,eD];split
  .rename_i h;rw[x8 h]
  .exact lx a b _
theorem uv(k:Nat)(t:Int):eD l (k+1) t=eD l 1 (eD l k t):=lx k 1 t
theorem FY(h:0<=t):eD l 1 t=rv l t:=by rw[eD,if_neg ad,eD]
theorem nR(hl:dF l)(t:Int):-1<=rv l t/\rv l t<l.length:=by
 unfold rv;split
 .omega
 .rw[List.getD_eq_getElem?_getD]
  cases h:l[t.toNat]? with
  | none=>simp;omega
  | some x=>simpa using hl x (LF h)
theorem rY(hl:dF l)(h0:-1<=t)(ac:t<l.length):∀k,-1<=eD l k t/\eD l k t<l.length:=by
 intro k
 induction k with
 | zero=>exact⟨h0,ac⟩
 | succ k aq=>
  rw[uv,eD];split
  .exact aq
  .exact nR hl _
theorem dK{j:Nat}(h:0<=eD l k t)(bi:j<=k):0<=eD l j t:=by
 rcases Int.lt_or_le (eD l j t) 0 with hn|hn
 .have:=lx (l:=l) j (k - j) t;rw[show j+(k - j)=k by omega,x8 hn] at this;omega
 .exact hn
theorem oF:∀(n:Nat) (m:List Nat),m.Nodup->(∀x∈m,x<n)->m.length<=n
 | 0,[],_,_=>Lz _
 | 0,x::m,_,h=>absurd (h x (by simp)) ad
 | n+1,m,hn,h=>by
  have aq:=oF n (m.erase n) (hn.erase n) λx hx=>by
   have ac:=h x (List.mem_of_mem_erase hx);have ax:x≠n:=λe=>by
    subst e;exact(List.Nodup.not_mem_erase hn) hx
   omega
  rw[List.length_erase] at aq;split at aq<;>omega
theorem yZ(hl:dF l)(ac:t<l.length)(h:0<=eD l l.length t):∃i j,i<j/\j<=l.length/\eD l i t=eD l j t:=by
 have h0:0<=t:=dK (j:=0) h (L3 _);refine Classical.byContradiction λbg=>?_;have aK:((List.range (l.length+1)).map λk=>(eD l k t).toNat).Nodup:=by
  rw[List.Nodup,List.pairwise_iff_getElem];intro i j al bi v heq;simp only[LG,List.length_range] at al bi;simp only[List.getElem_map,List.getElem_range] at heq;have f1:=dK (j:=i) h ad;have cI:=dK (j:=j) h ad;exact bg ⟨i,j,v,ad,ad⟩
 have:=oF l.length _ aK λx hx=>by
  obtain⟨k,aj,rfl⟩:=L5.1 hx;have a:=List.mem_range.1 aj;have ax:=dK (j:=k) h ad;have a1:=(rY hl ad ac k).2;omega
 simp only[LG,List.length_range] at this;omega
def rC(l:List Int)(t:Int):Prop:=∀k,0<=eD l k t
theorem uu{c:Int}{d:Nat}(h:eD l d c=c):∀m,eD l (m*d) c=c
 | 0=>by rw[Nat.zero_mul];rfl
 | m+1=>by rw[Nat.succ_mul,lx,uu h m,h]
theorem v3{c:Int}{d:Nat}(h0:0<=c)(hd:0<d)(h:eD l d c=c):rC l c:=λk=>by
 refine dK (k:=k*d) (by rw[uu h];exact h0) ?_;exact Nat.le_mul_of_pos_right k hd
theorem pP(hl:dF l)(ac:t<l.length)(h:0<=eD l l.length t):rC l t:=by
 obtain⟨i,j,v,bi,he⟩:=yZ hl ac h;have hc:=dK (j:=i) h ad;have hd:eD l (j - i) (eD l i t)=eD l i t:=by rw[<-lx,show i+(j - i)=j by omega,he]
 have br:=v3 hc ad hd;intro k;have:=br k;rw[<-lx] at this;exact dK this ad
theorem rC.next(h:rC l t):rC l (rv l t):=λk=>by
 have h0:=h 0;have:=h (k+1);rw[eD,if_neg (by exact Int.not_lt.2 h0)] at this;exact this
def oj(l:List Int):List Int:=((List.range l.length).map Int.ofNat).filter λt=>decide (0<=eD l (l.length+1) t)
theorem lA(hl:dF l):t∈oj l↔0<=t/\t<l.length/\rC l t:=by
 unfold oj;rw[List.mem_filter];constructor
 .rintro⟨ac,ax⟩;obtain⟨k,aj,rfl⟩:=L5.1 ac;have a:=List.mem_range.1 aj;have i:0<=eD l (l.length+1) (Int.ofNat k):=by simpa using ax
  exact⟨Int.natCast_nonneg k,by show (k:Int)<_;omega,pP hl (by show (k:Int)<_;omega) (dK i ad)⟩
 .rintro⟨h0,ac,ax⟩;refine⟨L5.2 ⟨t.toNat,List.mem_range.2 ad,by show ((t.toNat:Nat):Int)=t;omega⟩,by simpa using ax _⟩
def cQ(l:List Int)(k:Nat)(t:Nat):Bool:=decide (t<l.length) && decide (0<=eD l k (t:Int))
def jQ(l:List Int)(f:Nat->Bool)(t:Nat):Bool:=decide (t<l.length) && f t && decide (0<=rv l (t:Int)) && f (rv l (t:Int)).toNat
theorem m6(hl:dF l)(k t:Nat):jQ l (cQ l k) t=cQ l (k+1) t:=by
 unfold jQ cQ;by_cases ht:t<l.length
 .have hs:eD l (k+1) (t:Int)=eD l k (rv l t):=by rw[eD,if_neg ad]
  rw[hs];simp only[ht,decide_true,Bool.true_and];by_cases hn:0<=rv l (t:Int)
  .have ap:=(nR hl (t:Int)).2;have e:((rv l (t:Int)).toNat:Int)=rv l t:=ad;have b3:(rv l (t:Int)).toNat<l.length:=ad;rw[e];simp only[hn,b3,decide_true,Bool.and_true,Bool.true_and];by_cases J:0<=eD l k (rv l (t:Int))
   .have:0<=eD l k (t:Int):=dK (k:=k+1) (by rw[hs];exact J) ad;simp[J,this]
   .simp[J]
  .have J:¬0<=eD l k (rv l (t:Int)):=λh=>hn (dK (j:=0) h (L3 _));simp[hn,J]
 .simp[ht]
theorem si(hl:dF l){k:Nat}(h:∀t,t<l.length->cQ l (k+1) t=cQ l k t):∀m t,t<l.length->cQ l (k+m) t=cQ l k t
 | 0,t,_=>rfl
 | m+1,t,ht=>by
  have aq:=si hl h m;rw[show k+(m+1)=(k+m)+1 by omega,<-m6 hl,<-h t ht,<-m6 hl];unfold jQ;have e1:∀t,t<l.length->cQ l (k+m) t=cQ l k t:=aq;rw[e1 t ht];by_cases hn:0<=rv l (t:Int)
  .have ap:=(nR hl (t:Int)).2;rw[e1 (rv l (t:Int)).toNat ad]
  .simp[hn]
theorem zu(hl:dF l)(h:∀t,t<l.length->cQ l (k+1) t=cQ l k t){t:Nat}(ht:t<l.length):cQ l k t=true↔(t:Int)∈oj l:=by
 rw[lA hl];have ac:=si hl h l.length t ht;constructor
 .intro aj;rw[aj] at ac;have ax:0<=eD l (k+l.length) (t:Int):=by simpa[cQ,ht] using ac
  exact⟨ad,ad,pP hl ad (dK ax ad)⟩
 .rintro⟨_,_,br⟩;simp[cQ,ht,br k]
theorem vc{t:Nat}(h:cQ l (k+1) t=true):cQ l k t=true:=by
 unfold cQ at *;simp only[LO,Md] at h ⊢;exact⟨h.1,dK h.2 ad⟩
def je(l:List Int)(t:Int):Option Nat:=(List.range l.length).find? λm=>decide (eD l (m+1) t=t)
def yP(l:List Int):List Int:=
 match ((List.range l.length).map Int.ofNat).find? λt=>(je l t).isSome with
 | none=>[]
 | some t=>(List.range ((je l t).getD 0+1)).map λk=>eD l k t
end
theorem Sl.ya{w:World}{P:Nat->Prop}{A:Mk}{l:List Int}(h:Sl w P A n (l.map .i))(aj:k<n):
  ∃b o x,A=some ⟨b,o,none⟩/\P b/\l[k]?=some x/\w.cell? ⟨b,o+k,none⟩=some (.int .i64 x):=by
 obtain⟨b,o,x,cs,bO,O,hx,a9,hl,hc⟩:=Sl.g9 (z:=1) h (λ_=>rfl) aj;simp only[D.rep] at a9;subst a9;exact⟨b,o,x,bO,O,hx,by have:=hc 0 _ rfl;simpa using this⟩
theorem kf(A A2:Mk)(n c n2 c2:Nat)(S T:List Int)(w:World)(hs:Sl w (av w) A n (S.map .i))(ht:Sl w (av w) A2 n2 (T.map .i))(hn:n<=140737488355328) :
  Calls prog 11 #[.slice A n c,.slice A2 n2 c2] w λr ab=>r=.returned (.bool (decide (S=T)))/\Below w.heap.size w ab:=by
 have hl:S.length=n:=by have:=hs.1;simpa using this
 have ct:T.length=n2:=by have:=ht.1;simpa using this
 by_cases bl:n=n2
 case neg=>
  have a2:=ae (show decide (S=T)=false from decide_eq_false (λh=>bl (by rw[<-hl,<-ct,h])));have f:(n != n2)=true:=by simpa using bl
  have e:((n:Int) != (n2:Int))=true:=by simp;omega
  clear hl ct bl;go_enter func11,ntmps11;go_wp2;go_ret;exact⟨ret_bool (by rw[a2.o]),Below.refl _ _⟩
 subst bl;obtain⟨b2,J⟩:=aH hl ct;clear hl ct;have cb:((n:Int) != (n:Int))=false:=by simp
 go_enter func11,ntmps11;go_wp2;go_loopw [5] (λi wr=>∃k:Nat,k<=n/\i=.int .i64 k/\(∀j,j<k->S[j]?=T[j]?)/\Below w.heap.size w wr) (λi _=>n - (intOf i).toNat)
 case atStart=>exact⟨0,L3 _,rfl,λj bi=>absurd bi ad,Below.refl _ _⟩
 case round=>
  obtain⟨k,aj,rfl,bg,O⟩:=hrel;have aT:=ae bg;clear bg;by_cases ap:k<n
  .obtain⟨b,o,x,rfl,an,hx,c0⟩:=(hs.on O).ya ap;obtain⟨R,au,d,rfl,l,g,d0⟩:=(ht.on O).ya ap;have bm:(0:Int)<=(k:Int):=ad;have b7:(k:Int)<(n:Int):=ad;by_cases hd:x=d
   .have aR:=ae (show S[k]?=T[k]? by rw[hx,g,hd]);have C:(x != d)=false:=by simp[hd]
    clear hx g hd;go_wp2;go_quiet (fail)
    go_wp2;go_roundw
    case rel=>
     refine⟨k+1,ad,by go_num,λj bi=>?_,dJ O _⟩;exact Ad
    case measure=>exact aE
   .have a2:=ae (show decide (S=T)=false from decide_eq_false (λh=>by
     subst h;rw[hx] at g;injection g with g;exact hd g))
    have C:(x != d)=true:=by simp[hd]
    clear hx g hd;go_wp2;go_quiet (fail)
    go_wp2;go_ret;exact⟨ret_bool (by rw[a2.o]),dJ O _⟩
  .obtain rfl:k=n:=ad;have a2:=ae (show decide (S=T)=true from decide_eq_true (by
    apply List.ext_getElem?
    intro j;by_cases bi:j<k
    .exact aT.o j bi
    .rw[List.getElem?_eq_none (aB b2.o),List.getElem?_eq_none (aB J.o)]))
   exact tU
theorem y2(A:Mk)(n c:Nat)(S:List Int)(bU:Int)(w:World)(hs:Sl w (av w) A n (S.map .i))(hn:n<=140737488355328) :
  Calls prog 121 #[.slice A n c,.int .i64 bU] w λr ab=>r=.returned (.bool (decide (bU∈S)))/\Below w.heap.size w ab:=by
 have hl:S.length=n:=by have:=hs.1;simpa using this
 have b2:=ae hl;clear hl;go_enter func121,ntmps121;go_wp2;go_loopw [5] (λi wr=>∃k:Nat,k<=n/\i=.int .i64 k/\(∀j,j<k->S[j]?≠some bU)/\Below w.heap.size w wr) (λi _=>n - (intOf i).toNat)
 case atStart=>exact⟨0,L3 _,rfl,λj bi=>absurd bi ad,Below.refl _ _⟩
 case round=>
  obtain⟨k,aj,rfl,bg,O⟩:=hrel;have aT:=ae bg;clear bg;by_cases ap:k<n
  .obtain⟨b,o,x,rfl,an,hx,c0⟩:=(hs.on O).ya ap;have bm:(0:Int)<=(k:Int):=ad;have b7:(k:Int)<(n:Int):=ad;by_cases hd:x=bU
   .have a2:=ae (show decide (bU∈S)=true from decide_eq_true (hd▸LF hx));have C:(x == bU)=true:=by simp[hd]
    clear hx hd;exact tU
   .have aR:=ae (show S[k]?≠some bU by rw[hx];intro h;injection h with h;exact hd h);have C:(x == bU)=false:=by simp[hd]
    clear hx hd;go_wp2;go_roundw
    case rel=>
     refine⟨k+1,ad,by go_num,λj bi=>?_,O⟩;exact Ad
    case measure=>exact aE
  .obtain rfl:k=n:=ad;have a2:=ae (show decide (bU∈S)=false from decide_eq_false (λh=>by
    obtain⟨j,bi,he⟩:=List.mem_iff_getElem.1 h;exact aT.o j (aB b2.o) (by rw[List.getElem?_eq_getElem bi,he])))
   exact tU
theorem zg(cp:Int)(A:Mk)(n c:Nat)(L:List Int)(p:bP)(q:List Value)(sl:Value)(w:World)(hs:Sl w (av w) A n (L.map .i))(hn:n<=140737488355328)(hp:p.param=true->0<=p.index/\p.index<n) :
  Calls prog 120 #[.agg #[.int .i64 cp,.slice A n c],.agg #[.bool p.param,.int .i64 p.index,sl]] w λr ab=>r=.returned (.int .i64 (if p.param then L.getD p.index.toNat 0 else p.index))/\Ext w ab:=by
 obtain⟨pm,i,a⟩:=p;simp only at hp ⊢;cases pm
 .go_enter func120,ntmps120;go_wp2;go_ret;exact⟨rfl,(Mg.alloc _).alloc _⟩
 .obtain⟨h0,ac⟩:=hp rfl;obtain⟨k,rfl⟩:=LH h0;have aj:k<n:=ad;obtain⟨b,o,x,rfl,an,hx,c0⟩:=hs.ya aj;have aR:=ae (show L.getD (Int.toNat k) 0=x by rw[List.getD_eq_getElem?_getD,LZ,hx];rfl);clear hx;suffices ag:Calls prog 120 #[.agg #[.int .i64 cp,.slice (some ⟨b,o,none⟩) n c],.agg #[.bool true,.int .i64 (k:Int),sl]] w λr ab=>r=.returned (.int .i64 x)/\Ext w ab from
   ag.mono λe aP ac=>⟨ac.1.trans (by rw[<-aR.o];simp),ac.2⟩
  go_enter func120,ntmps120;go_wp2;go_ret;exact⟨rfl,(Mg.alloc _).alloc _⟩
def jD(n:Nat):List UInt8:=if n<10 then [UInt8.ofNat (48+n)] else jD (n / 10)++[UInt8.ofNat (48+n % 10)]
 termination_by n
theorem mN(d:Nat)(h:d<10):(UInt8.ofNat (48+d)).toNat=48+d:=by simp;omega
theorem ud(n:Nat):(jD n).all bB=true/\∃c l,jD n=c::l:=by
 induction n using Nat.strongRecOn with
 | _ n aq=>
  rw[jD];split
  .rename_i h;refine⟨?_,_,_,rfl⟩;simp only[List.all_cons,List.all_nil,Bool.and_true,bB,mN n h,LO,Md];omega
  .obtain⟨ac,c,l,ax⟩:=aq (n / 10) ad;refine⟨?_,c,l++[UInt8.ofNat (48+n % 10)],by rw[ax];rfl⟩;simp only[List.all_append,ac,List.all_cons,List.all_nil,Bool.and_true,Bool.true_and,bB,mN (n % 10) ad,LO,Md];omega
theorem r7:∀(ch c0:List UInt8) (n:Int),0<=n->ch.all bB=true->iP n (ch++c0)=if iP n ch<0 then -1 else iP (iP n ch) c0
 | [],c0,n,hn,_=>by
  have h0:iP n []=n:=rfl
  rw[L8,h0,if_neg ad]
 | c::ch,c0,n,hn,h=>by
  simp only[List.all_cons,LO] at h;have hd:48<=c.toNat:=by have:=h.1;simp only[bB,LO,Md] at this;exact this.1
  simp only[LR,iP];split
  .simp
  .exact r7 ch c0 _ ad h.2
theorem zi(n:Nat)(h:n<=9223372036854775807):oT (jD n)=n:=by
 unfold oT
 induction n using Nat.strongRecOn with
 | _ n aq=>
  rw[jD];split
  .rename_i h;simp only[iP,mN n h];rw[if_neg ad];omega
  .have i:=aq (n / 10) ad ad;rw[r7 _ _ _ ad (ud _).1,i,if_neg ad];simp only[iP,mN (n % 10) ad];rw[if_neg ad];omega
def Atom.last(aT:List Atom):Option Atom:=aT.getLast?
theorem ey:∀(aT f:List Atom),Atom.chain aT->Atom.chain f->(∀a b,aT.getLast?=some a->f.head?=some b->a.fits b)->Atom.chain (aT++f)
 | [],f,_,O,_=>O
 | [a],[],br,_,_=>br
 | [a],b::f,br,O,J=>⟨br,J a b rfl rfl,O⟩
 | a::r::aT,f,br,O,J=>by
  have aq:=ey (r::aT) f br.2.2 O (λx y hx bb=>J x y (by rw[List.getLast?_cons_cons];exact hx) bb);exact⟨br.1,br.2.1,aq⟩
theorem count_append:∀(aT f:List Atom),Atom.count (aT++f)=Atom.count aT+Atom.count f
 | [],f=>by simp[Atom.count]
 | a::aT,f=>by
  have aq:=count_append aT f;cases a<;>simp only[LR,Atom.count,aq]<;>omega
def aV(aT:List Atom):List UInt8:=aT.flatMap Atom.bytes
theorem a9(aT f:List Atom):aV (aT++f)=aV aT++aV f:=List.flatMap_append
theorem a1(a:Atom)(f:List Atom):aV (a::f)=a.bytes++aV f:=LY
theorem pD(c:UInt8)(b:Atom):(Atom.ws c).fits b:=⟨λh=>by simp[Atom.kB] at h,λs h=>by cases h⟩
theorem pj(a:Atom)(c:UInt8)(h:pC c=true):a.fits (.ws c):=by
 refine⟨λ_=>rfl,λs _ _ d hd=>?_⟩;simp only[Atom.head,Mb] at hd;subst hd;have key:∀s∈eR,∀d:UInt8,(d=32\/d=9\/d=10\/d=13)->(s++[d])∉fC/\¬(s=[47]/\d=47):=by
  intro s hs d hd;rcases hd with rfl|rfl|rfl|rfl<;>revert s<;>decide
 refine key s (by assumption) c ?_;simp only[pC,Bool.or_eq_true,beq_iff_eq] at h;rcases h with((h|h)|h)|h<;>simp[h]
theorem xV(a b:Atom)(br:a.kB=true)(O:b.kB=false):a.fits b:=⟨λ_=>O,λs h=>by subst h;simp[Atom.kB] at br⟩
def tB(a:Atom):Prop:=a.kB=true/\a.gk\/a=.sg [45]\/a=.sg [33]\/a=.sg [40]
def Ht(a:Atom):Prop:=a.kB=true\/a=.sg [41]\/a=.sg [93]
theorem FZ(a:Atom)(h:a.kB=true)(aY:a.gk)(c:UInt8)(hc:a.head=some c):cf c=true:=by
 cases a with
 | ws _=>simp[Atom.kB] at h
 | sg _=>simp[Atom.kB] at h
 | word s=>
  obtain⟨⟨d,l,rfl,ac,_⟩,_⟩:=aY;simp only[Atom.head,List.head?_cons,Mb] at hc;subst hc
  simp[cf,ac]
 | num s=>
  obtain⟨⟨d,l,rfl⟩,ac,_⟩:=aY;simp only[Atom.head,List.head?_cons,Mb] at hc;subst hc;simp only[List.all_cons,LO] at ac;simp[cf,ac.1]
theorem nY(s:List UInt8)(hs:s=[45]\/s=[33]\/s=[40]\/s=[91])(b:Atom)(O:tB b):(Atom.sg s).fits b:=by
 refine⟨λh=>by simp[Atom.kB] at h,λt ht _ c hc=>?_⟩;injection ht with ht;subst ht;have Z:cf c=true\/c=45\/c=33\/c=40:=by
  rcases O with⟨ac,ax⟩|rfl|rfl|rfl
  .exact .inl (FZ b ac ax c hc)
  all_goals simp[Atom.head] at hc;subst hc;simp
 have bl:c≠61/\c≠38/\c≠124/\c≠47:=by
  rcases Z with h|rfl|rfl|rfl
  .refine⟨?_,?_,?_,?_⟩<;>(rintro rfl;revert h;decide)
  all_goals decide
 rcases hs with rfl|rfl|rfl|rfl<;>simp[fC,bl]
theorem pe(a:Atom)(br:Ht a)(s:List UInt8)(hs:s=[41]\/s=[93]\/s=[59]\/s=[44]):a.fits (.sg s):=by
 rcases br with h|rfl|rfl
 .exact xV _ _ h rfl
 all_goals
  refine⟨λh=>by simp[Atom.kB] at h,λt ht _ c hc=>?_⟩;injection ht with ht;subst ht;rcases hs with rfl|rfl|rfl|rfl<;>(simp[Atom.head] at hc;subst hc;decide)
def a2:VE->Int
 | .num _=>1
 | .ha _=>2
 | .loc _=>18
 | .iK _=>19
 | .un op _=>op
 | .bin op _ _=>op
def cZ(op:Int):Int:=if op=17 then 0 else if op=16 then 1 else if 10<=op/\op<=15 then 2 else if op=8\/op=9 then 3 else if 5<=op/\op<=7 then 4 else if op=3\/op=4 then 5 else 6
def dE(op arg:Int)(second:Bool):Bool:=decide (cZ arg<cZ op) || (cZ arg == cZ op && second)
def g3(op:Int):List UInt8:=
 if op=5 then [42] else if op=6 then [47] else if op=7 then [37] else if op=8 then [43] else if op=9 then [45] else if op=10 then [60] else if op=11 then [60,61]
 else if op=12 then [62] else if op=13 then [62,61] else if op=14 then [61,61] else if op=15 then [33,61] else if op=16 then [38,38] else [124,124]
def par(b:Bool)(aT:List Atom):List Atom:=if b then .sg [40]::(aT++[.sg [41]]) else aT
def cq:VE->List Atom
 | .num n=>[.num (jD n.toNat)]
 | .ha s=>[.word s.data.toList]
 | .loc _=>[]
 | .iK _=>[]
 | .un op x=>.sg (if op=3 then [45] else [33])::par (dE op (a2 x) false) (cq x)
 | .bin op x y=>par (dE op (a2 x) false) (cq x)++(.ws 32::.sg (g3 op)::.ws 32::par (dE op (a2 y) true) (cq y))
def VE.src(N:Ml):Nat->VE->Prop
 | _,.num n=>0<=n/\n<4611686018427387904
 | _,.ha s=>s∈N
 | _,.loc _=>False
 | _,.iK _=>False
 | 0,.un _ _=>False
 | 0,.bin _ _ _=>False
 | d+1,.un op x=>(op=3\/op=4)/\VE.src N d x
 | d+1,.bin op x y=>(5<=op/\op<=17)/\VE.src N d x/\VE.src N d y
def dM(N:Ml):Prop:=∀s∈N,bF s.data.toList=true
structure lM(aT:List Atom):Prop where
 chain:Atom.chain aT
 first:∃a,aT.head?=some a/\tB a
 last:∃a,aT.getLast?=some a/\Ht a
theorem getLast_append{aT f:List Atom}(h:f.getLast?=some a):(aT++f).getLast?=some a:=by
 rw[List.getLast?_append,h];rfl
theorem head_append{aT f:List Atom}(h:aT.head?=some a):(aT++f).head?=some a:=by
 rw[List.head?_append,h];rfl
theorem cV{aT:List Atom}(br:a.gk)(h:Atom.chain aT)(J:∀b,aT.head?=some b->a.fits b):Atom.chain (a::aT):=
 ey [a] aT br h λx b hx O=>by
  simp at hx;subst hx;exact J b O
theorem cn(h:s∈eR\/s∈fC):(Atom.sg s).gk:=h.symm
theorem lM.par{aT:List Atom}(h:lM aT)(b:Bool):lM (par b aT):=by
 cases b
 .exact h
 .obtain⟨a,br,hs⟩:=h.first;obtain⟨z,aG,he⟩:=h.last;refine⟨?_,⟨_,rfl,.inr (.inr (.inr rfl))⟩,⟨.sg [41],?_,.inr (.inl rfl)⟩⟩
  .refine cV (cn (.inl (by decide))) (ey _ _ h.chain (cn (.inl (by decide))) λx y hx bb=>?_) λy bb=>?_
   .rw[aG] at hx;injection hx with hx;subst hx;simp at bb;subst bb;exact pe _ he _ (.inl rfl)
   .rw[head_append br] at bb;injection bb with bb;subst bb;exact nY _ (.inr (.inr (.inl rfl))) _ hs
  .show (Atom.sg [40]::(aT++[Atom.sg [41]])).getLast?=some (.sg [41])
   rw[<-List.cons_append];exact getLast_append rfl
theorem xa(op:Int):g3 op∈eR\/g3 op∈fC:=by
 unfold g3
 repeat' split
 all_goals first|exact .inl (by decide)|exact .inr (by decide)
theorem dH(h:bF s=true):(Atom.word s).gk:=by
 cases s with
 | nil=>simp[bF] at h
 | cons c l=>
  simp only[bF,LO,Md] at h;exact⟨⟨c,l,rfl,h.1.1.1,h.1.1.2⟩,.inr h.1.2⟩
theorem qC(h:n<=9223372036854775807):(Atom.num (jD n)).gk:=by
 obtain⟨ac,ax⟩:=ud n;exact⟨ax,ac,by rw[zi n h];omega⟩
theorem Fe{aT:List Atom}(hs:s=[45]\/s=[33])(h:lM aT):lM (.sg s::aT):=by
 obtain⟨a,br,cm⟩:=h.first;obtain⟨z,aG,he⟩:=h.last;refine⟨cV (cn (.inl (by rcases hs with rfl|rfl<;>decide))) h.chain λb O=>?_,⟨_,rfl,by rcases hs with rfl|rfl<;>simp[tB]⟩,⟨z,?_,he⟩⟩
 .rw[br] at O;injection O with O;subst O;exact nY _ (by rcases hs with rfl|rfl<;>simp) _ cm
 .show ([Atom.sg s]++aT).getLast?=some z
  exact getLast_append aG
theorem ew{N:Ml}(hN:dM N):∀(d:Nat) (x:VE),x.src N d->lM (cq x)
 | d,.num n,h=>by
  have q:0<=n/\n<4611686018427387904:=by cases d<;>exact h
  have aY:=qC (n:=n.toNat) ad
  exact⟨aY,⟨_,rfl,.inl ⟨rfl,aY⟩⟩,⟨_,rfl,.inl rfl⟩⟩
 | d,.ha s,h=>by
  have q:s∈N:=by cases d<;>exact h
  have aY:=dH (hN s q)
  exact⟨aY,⟨_,rfl,.inl ⟨rfl,aY⟩⟩,⟨_,rfl,.inl rfl⟩⟩
 | d,.loc _,h=>by cases d<;>exact h.elim
 | d,.iK _,h=>by cases d<;>exact h.elim
 | 0,.un _ _,h=>h.elim
 | 0,.bin _ _ _,h=>h.elim
 | d+1,.un op x,h=>by
  unfold cq
  exact Fe (by split<;>simp) ((ew hN d x h.2).par (dE op (a2 x) false))
 | d+1,.bin op x y,h=>by
  have i:=(ew hN d x h.2.1).par (dE op (a2 x) false);have c:=(ew hN d y h.2.2).par (dE op (a2 y) true);unfold cq;generalize par (dE op (a2 x) false) (cq x)=aT at *;generalize par (dE op (a2 y) true) (cq y)=f at *;obtain⟨a,br,cm⟩:=i.first;obtain⟨z,aG,he⟩:=c.last;refine⟨ey _ _ i.chain ?_ ?_,⟨a,head_append br,cm⟩,⟨z,getLast_append ?_,he⟩⟩
  .refine cV rfl (cV (cn (xa op)) (cV rfl c.chain λb _=>pD _ b) λb O=>?_) λb _=>pD _ b;simp at O;subst O;exact pj _ _ rfl
  .intro x y _ bb;simp at bb;subst bb;exact pj _ _ rfl
  .show ([Atom.ws 32,Atom.sg (g3 op),Atom.ws 32]++f).getLast?=some z
   exact getLast_append aG
structure Env where
 af:List bL
 params:List (ByteArray×Bool)
 funcs:List (ByteArray×List (ByteArray×Bool))
def su(G:Env)(V:Ml)(r:eW):Prop:=
 (∃m∈G.af,m.name=r.name/\(0<m.size->∃e,r.idx=some e/\e.src V 2)/\(¬0<m.size->r.idx=none))\/((r.name,true)∈G.params/\r.idx=none)
def JQ(G:Env)(V:Ml)(p:ByteArray×Bool):dj->Prop
 | .mx r=>p.2=true/\su G V r
 | .ex e=>p.2=false/\e.src V 2
def iX(G:Env)(V:Ml):List (ByteArray×Bool)->List dj->Prop
 | [],[]=>True
 | p::ps,a::aT=>JQ G V p a/\iX G V ps aT
 | _,_=>False
def fk(G:Env):(d:Nat)->(V T:Ml)->al->Prop
 | _,_,_,.nil=>True
 | d,V,T,.set true n e rest=>bF n.data.toList=true/\n∉T/\e.src V 2/\fk G d (V++[n]) (T++[n]) rest
 | d,V,T,.set false n e rest=>n∈V/\e.src V 2/\fk G d V T rest
 | d,V,T,.call _ n aT rest=>(∃ps,(n,ps)∈G.funcs/\iX G V ps aT)/\fk G d V T rest
 | d,V,T,.lock _ r rest=>su G V r/\fk G d V T rest
 | 0,_,_,.ite ..=>False
 | 0,_,_,.gG ..=>False
 | d+1,V,T,.ite e th el rest=>e.src V 2/\fk G d V T th/\fk G d V T el/\fk G (d+1) V T rest
 | d+1,V,T,.gG e th rest=>e.src V 2/\fk G d V T th/\fk G (d+1) V T rest
 | d,V,T,.ret rest=>fk G d V T rest
def al.isNil:al->Bool
 | .nil=>true
 | _=>false
def al.num:al->Nat
 | .nil=>0
 | .set _ _ _ rest=>rest.num+1
 | .call _ _ _ rest=>rest.num+1
 | .lock _ _ rest=>rest.num+1
 | .ite _ th el rest=>th.num+el.num+rest.num+1
 | .gG _ th rest=>th.num+rest.num+1
 | .ret rest=>rest.num+1
def kw(s:List UInt8):Atom:=.word s
def iD(r:eW):List Atom:=.word r.name.data.toList::(match r.idx with|none=>[]|some e=>.sg [91]::(cq e++[.sg [93]]))
def ga:List UInt8:=[109,117,116,101,120]
def fP:dj->List Atom
 | .mx r=>kw ga::.ws 32::iD r
 | .ex e=>cq e
def eh:List (List Atom)->List Atom
 | []=>[]
 | [a]=>a
 | a::b::l=>a++(.sg [44]::.ws 32::eh (b::l))
def jd(aT:List dj):List Atom:=.sg [40]::(eh (aT.map fP)++[.sg [41]])
def fK(n:Nat):List Atom:=List.replicate n (.ws 9)
def aW:Nat->al->List Atom
 | _,.nil=>[]
 | t,.set v n e rest=>fK t++((if v then [kw [118,97,114],.ws 32] else [])++(.word n.data.toList::.ws 32::.sg [61]::.ws 32::(cq e++(.sg [59]::.ws 10::aW t rest))))
 | t,.call g n aT rest=>fK t++((if g then [kw [103,111],.ws 32] else [])++(.word n.data.toList::(jd aT++(.sg [59]::.ws 10::aW t rest))))
 | t,.lock u r rest=>fK t++(kw (if u then [117,110,108,111,99,107] else [108,111,99,107])::.ws 32::(iD r++(.sg [59]::.ws 10::aW t rest)))
 | t,.ite e th el rest=>fK t++(kw [105,102]::.ws 32::(cq e++(.ws 32::.sg [123]::.ws 10::(aW (t+1) th++(fK t++(.sg [125] ::
   ((if el.isNil then [] else .ws 32::kw [101,108,115,101]::.ws 32::.sg [123]::.ws 10::(aW (t+1) el++(fK t++[.sg [125]])))++(.ws 10::aW t rest))))))))
 | t,.gG e th rest=>fK t++(kw [119,104,105,108,101]::.ws 32::(cq e++(.ws 32::.sg [123]::.ws 10::(aW (t+1) th++(fK t++(.sg [125]::.ws 10::aW t rest))))))
 | t,.ret rest=>fK t++(kw [114,101,116,117,114,110]::.sg [59]::.ws 10::aW t rest)
theorem fN(h:s∈tM):(kw s).gk:=by
 have key:∀s∈tM,(match s with|[]=>false|c::l=>bX c && l.all cf)=true:=by decide
 have:=key s h
 cases s with
 | nil=>cases this
 | cons c l=>
  simp only[LO] at this;exact⟨⟨c,l,rfl,this.1,this.2⟩,.inl (by simpa[dw] using h)⟩
section
variable {aT f:List Atom}
theorem c9(hc:pC c=true)(h:Atom.chain aT):Atom.chain (.ws c::aT):=cV hc h λb _=>pD c b
theorem b9(br:a.gk)(hc:pC c=true)(h:Atom.chain (.ws c::aT)):Atom.chain (a::.ws c::aT):=
 cV br h λb O=>by
  simp at O;subst O;exact pj _ _ hc
theorem iE(br:a.gk)(hl:a.kB=true)(h:Atom.chain (.sg s::aT)):Atom.chain (a::.sg s::aT):=
 cV br h λb O=>by
  simp at O;subst O;exact xV _ _ hl rfl
theorem fo(ac:lM aT)(hs:s=[41]\/s=[93]\/s=[59]\/s=[44])(h:Atom.chain (.sg s::f)):Atom.chain (aT++.sg s::f):=
 ey _ _ ac.chain h λa b br O=>by
  obtain⟨z,aG,he⟩:=ac.last;rw[aG] at br;injection br with br;subst br;simp at O;subst O;exact pe _ he _ hs
theorem rN(ac:Atom.chain aT)(hc:pC c=true)(h:Atom.chain (.ws c::f)):Atom.chain (aT++.ws c::f):=
 ey _ _ ac h λa b _ O=>by
  simp at O;subst O;exact pj _ _ hc
theorem pa(hs:s=[40]\/s=[91])(ac:lM aT)(h:Atom.chain (aT++f)):Atom.chain (.sg s::(aT++f)):=
 cV (cn (.inl (by rcases hs with rfl|rfl<;>decide))) h λb O=>by
  obtain⟨a,br,cm⟩:=ac.first;rw[head_append br] at O;injection O with O;subst O;exact nY _ (by rcases hs with rfl|rfl<;>simp) _ cm
def h4(aT:List Atom):Prop:=Atom.chain aT/\∀a,aT.getLast?=some a->∃c,a=.ws c
theorem h4.app(h:h4 aT)(O:Atom.chain f):Atom.chain (aT++f):=
 ey _ _ h.1 O λa b br _=>by
  obtain⟨c,rfl⟩:=h.2 a br;exact pD _ _
theorem gF(n:Nat):h4 (fK n):=by
 induction n with
 | zero=>exact⟨trivial,λa h=>by simp[fK] at h⟩
 | succ n aq=>
  refine⟨c9 rfl aq.1,λa h=>?_⟩;simp only[fK,List.getLast?_replicate] at h;simp at h;exact⟨9,h.symm⟩
theorem uB{l:List Atom}(h:∀a,m.getLast?=some a->∃c,a=.ws c)(hm:m≠[])(br:(l++m).getLast?=some a):∃c,a=.ws c:=by
 rw[List.getLast?_append] at br
 cases hl:m.getLast? with
 | none=>exact absurd (List.getLast?_eq_none_iff.1 hl) hm
 | some b=>
  rw[hl] at br;simp at br;subst br;exact h _ hl
end
theorem pU{G:Env}{V:Ml}(hV:dM V)(hM:∀m∈G.af,bF m.name.data.toList=true)(be:∀p∈G.params,bF p.1.data.toList=true)(r:eW)(h:su G V r):lM (iD r):=by
 have hn:(Atom.word r.name.data.toList).gk:=by
  rcases h with⟨m,hm,he,_⟩|⟨hp,_⟩
  .rw[<-he];exact dH (hM m hm)
  .exact dH (be _ hp)
 unfold iD
 cases al:r.idx with
 | none=>exact⟨hn,⟨_,rfl,.inl ⟨rfl,hn⟩⟩,⟨_,rfl,.inl rfl⟩⟩
 | some e=>
  have hs:e.src V 2:=by
   exact Hg
  have aq:=ew hV 2 e hs;refine⟨iE hn rfl (pa (.inr rfl) aq (fo aq (.inr (.inl rfl)) (cn (.inl (by decide))))),⟨_,rfl,.inl ⟨rfl,hn⟩⟩,⟨.sg [93],?_,.inr (.inr rfl)⟩⟩;show ((Atom.word r.name.data.toList::.sg [91]::cq e)++[Atom.sg [93]]).getLast?=_
  exact getLast_append rfl
theorem nM:∀(l:List (List Atom)),(∀a∈l,lM a)->l≠[]->lM (eh l)
 | [],_,h=>absurd rfl h
 | [a],h,_=>h a (by simp)
 | a::b::l,h,_=>by
  have aq:=nM (b::l) (λx hx=>h x (by simp[hx])) (by simp);have br:=h a (by simp);obtain⟨x,hx,hs⟩:=br.first;obtain⟨z,aG,he⟩:=aq.last;refine⟨fo br (.inr (.inr (.inr rfl))) (b9 (cn (.inl (by decide))) rfl (c9 rfl aq.chain)),⟨x,head_append hx,hs⟩,⟨z,?_,he⟩⟩;show (a++([Atom.sg [44],Atom.ws 32]++eh (b::l))).getLast?=some z
  exact getLast_append (getLast_append aG)
section
variable {G:Env} {V:Ml} (hV:dM V) (hM:∀m∈G.af,bF m.name.data.toList=true) (be:∀p∈G.params,bF p.1.data.toList=true)
include hV hM be
theorem wa(p:ByteArray×Bool)(a:dj)(h:JQ G V p a):lM (fP a):=by
 cases a with
 | ex e=>exact ew hV 2 e h.2
 | mx r=>
  have aq:=pU hV hM be r h.2;have aj:(kw ga).gk:=fN (by decide);obtain⟨z,aG,he⟩:=aq.last;refine⟨b9 aj rfl (c9 rfl aq.chain),⟨_,rfl,.inl ⟨rfl,aj⟩⟩,⟨z,?_,he⟩⟩;show ([kw ga,Atom.ws 32]++iD r).getLast?=some z
  exact getLast_append aG
theorem vv:∀(ps:List (ByteArray×Bool)) (aT:List dj),iX G V ps aT->(∀a∈aT.map fP,lM a)/\aT.length=ps.length
 | [],[],_=>⟨λa h=>by simp at h,rfl⟩
 | p::ps,a::aT,h=>by
  obtain⟨ac,ax⟩:=vv ps aT h.2;refine⟨λx hx=>?_,by simp[ax]⟩;simp only[LI,LS] at hx;rcases hx with rfl|hx
  .exact wa hV hM be p a h.1
  .exact ac x hx
 | [],_::_,h=>h.elim
 | _::_,[],h=>h.elim
theorem rm(ps:List (ByteArray×Bool))(aT:List dj)(h:iX G V ps aT){f:List Atom}(O:Atom.chain (.sg [59]::f)):Atom.chain (jd aT++.sg [59]::f):=by
 have u:Atom.chain (.sg [41]::.sg [59]::f):=cV (cn (.inl (by decide))) O λb O=>by
  simp at O;subst O;exact pe _ (.inr (.inl rfl)) _ (.inr (.inr (.inl rfl)))
 obtain⟨ac,_⟩:=vv hV hM be ps aT h
 cases aT with
 | nil=>
  refine cV (cn (.inl (by decide))) u λb O=>?_
  exact Hl
 | cons a l=>
  have aq:=nM ((a::l).map fP) ac (by simp);show Atom.chain (Atom.sg [40]::((eh ((a::l).map fP)++[Atom.sg [41]])++Atom.sg [59]::f))
  rw[LQ];exact pa (.inl rfl) aq (fo aq (.inl rfl) u)
end
def lN(l:List Atom):Prop:=l≠[]/\∀a,l.getLast?=some a->∃c,a=.ws c
theorem lN.cons{x:Atom}{l:List Atom}(h:lN l):lN (x::l):=
 ⟨by simp,λa br=>uB (l:=[x]) h.2 h.1 (by simpa using br)⟩
theorem lN.app{l:List Atom}(h:lN m):lN (l++m):=
 ⟨by have:=h.1;simp[this],λa br=>uB h.2 h.1 br⟩
theorem lN.nl{l:List Atom}(h:∀a,l.getLast?=some a->∃c,a=.ws c):lN (.ws 10::l):=by
 refine⟨by simp,λa br=>?_⟩
 cases l with
 | nil=>simp at br;exact⟨10,br.symm⟩
 | cons x l=>exact h a (by rw[List.getLast?_cons_cons] at br;exact br)
theorem dR:∀(b:al) (t:Nat) (a:Atom),(aW t b).getLast?=some a->∃c,a=.ws c
 | .nil,t,a,h=>by simp[aW] at h
 | .set v n e rest,t,a,h=>by
  unfold aW at h
  exact(lN.app (.app (.cons (.cons (.cons (.cons (.app (.cons (.nl (dR rest t)))))))))).2 a h
 | .call g n aT rest,t,a,h=>by
  unfold aW at h
  exact(lN.app (.app (.cons (.app (.cons (.nl (dR rest t))))))).2 a h
 | .lock u r rest,t,a,h=>by
  unfold aW at h
  exact(lN.app (.cons (.cons (.app (.cons (.nl (dR rest t))))))).2 a h
 | .ite e th el rest,t,a,h=>by
  unfold aW at h
  exact(lN.app (.cons (.cons (.app (.cons (.cons (.cons (.app (.app (.cons (.app (.nl (dR rest t))))))))))))).2 a h
 | .gG e th rest,t,a,h=>by
  unfold aW at h
  exact(lN.app (.cons (.cons (.app (.cons (.cons (.cons (.app (.app (.cons (.nl (dR rest t)))))))))))).2 a h
 | .ret rest,t,a,h=>by
  unfold aW at h;exact(lN.app (.cons (.cons (.nl (dR rest t))))).2 a h
structure og(G:Env):Prop where
 af:∀m∈G.af,bF m.name.data.toList=true
 params:∀p∈G.params,bF p.1.data.toList=true
 funcs:∀f∈G.funcs,bF f.1.data.toList=true/\f.2.length<=2
theorem j9{V:Ml}{n:ByteArray}(h:dM V)(hn:bF n.data.toList=true):dM (V++[n]):=by
 intro s hs;simp only[LL,Ma] at hs;rcases hs with hs|rfl
 .exact h s hs
 .exact hn
theorem c5{G:Env}(hG:og G):∀(b:al) (d t:Nat) (V T:Ml),dM V->fk G d V T b->Atom.chain (aW t b)
 | .nil,d,t,V,T,_,_=>trivial
 | .set v n e rest,d,t,V,T,hV,h=>by
  have a:(Atom.sg [59]).gk:=cn (.inl (by decide));have f:(Atom.sg [61]).gk:=cn (.inl (by decide));unfold aW
  cases v with
  | true=>
   have q:bF n.data.toList=true/\n∉T/\e.src V 2/\fk G d (V++[n]) (T++[n]) rest:=by cases d<;>exact h
   have aq:=c5 hG rest d t _ _ (j9 hV q.1) q.2.2.2;have aF:=ew hV 2 e q.2.2.1
   exact(gF t).app (b9 (fN (by decide)) rfl (c9 rfl (b9 (dH q.1) rfl (c9 rfl (b9 f rfl (c9 rfl (fo aF (.inr (.inr (.inl rfl))) (b9 a rfl (c9 rfl aq)))))))))
  | false=>
   have q:n∈V/\e.src V 2/\fk G d V T rest:=by cases d<;>exact h
   have aq:=c5 hG rest d t _ _ hV q.2.2;have aF:=ew hV 2 e q.2.1
   exact(gF t).app (b9 (dH (hV n q.1)) rfl (c9 rfl (b9 f rfl (c9 rfl (fo aF (.inr (.inr (.inl rfl))) (b9 a rfl (c9 rfl aq)))))))
 | .call g n aT rest,d,t,V,T,hV,h=>by
  have q:(∃ps,(n,ps)∈G.funcs/\iX G V ps aT)/\fk G d V T rest:=by cases d<;>exact h
  obtain⟨⟨ps,J,has⟩,a9⟩:=q;have aq:=c5 hG rest d t _ _ hV a9;have a:(Atom.sg [59]).gk:=cn (.inl (by decide));have bO:=rm hV hG.af hG.params ps aT has (b9 a rfl (c9 (c:=10) rfl aq));have bd:Atom.chain (.word n.data.toList::(jd aT++(.sg [59]::.ws 10::aW t rest))):=iE (dH (hG.funcs _ J).1) rfl bO;unfold aW
  cases g with
  | true=>exact(gF t).app (b9 (fN (by decide)) rfl (c9 rfl bd))
  | false=>exact(gF t).app bd
 | .lock u r rest,d,t,V,T,hV,h=>by
  have q:su G V r/\fk G d V T rest:=by cases d<;>exact h
  have aq:=c5 hG rest d t _ _ hV q.2;have cB:=pU hV hG.af hG.params r q.1;have a:(Atom.sg [59]).gk:=cn (.inl (by decide));unfold aW
  exact(gF t).app (b9 (fN (by cases u<;>decide)) rfl (c9 rfl (fo cB (.inr (.inr (.inl rfl))) (b9 a rfl (c9 rfl aq)))))
 | .ite e th el rest,0,t,V,T,hV,h=>h.elim
 | .gG e th rest,0,t,V,T,hV,h=>h.elim
 | .ite e th el rest,d+1,t,V,T,hV,h=>by
  have j:=c5 hG th d (t+1) _ _ hV h.2.1;have o:=c5 hG el d (t+1) _ _ hV h.2.2.1;have aq:=c5 hG rest (d+1) t _ _ hV h.2.2.2;have aF:=ew hV 2 e h.1;have k:(Atom.sg [123]).gk:=cn (.inl (by decide));have i:(Atom.sg [125]).gk:=cn (.inl (by decide));have e1:h4 (aW (t+1) th):=⟨j,dR th _⟩
  have e2:h4 (aW (t+1) el):=⟨o,dR el _⟩
  have cu:Atom.chain (.ws 10::aW t rest):=c9 rfl aq;have tail:Atom.chain (.sg [125]::((if el.isNil then [] else .ws 32::kw [101,108,115,101]::.ws 32::.sg [123]::.ws 10::(aW (t+1) el++(fK t++[.sg [125]])))++(.ws 10::aW t rest))):=by
   have bZ:Atom.chain (.sg [125]::((.ws 32::kw [101,108,115,101]::.ws 32::.sg [123]::.ws 10::(aW (t+1) el++(fK t++[.sg [125]])))++(.ws 10::aW t rest))):=by
    refine b9 i rfl (c9 rfl (b9 (fN (by decide)) rfl (c9 rfl (b9 k rfl (c9 rfl ?_)))));show Atom.chain ((aW (t+1) el++(fK t++[Atom.sg [125]]))++(Atom.ws 10::aW t rest))
    rw[LQ,LQ];exact e2.app ((gF t).app (b9 i rfl cu))
   split
   .exact b9 i rfl cu
   .exact bZ
  unfold aW
  exact(gF t).app (b9 (fN (by decide)) rfl (c9 rfl (rN aF.chain rfl (c9 rfl (b9 k rfl (c9 rfl (e1.app ((gF t).app tail))))))))
 | .gG e th rest,d+1,t,V,T,hV,h=>by
  have j:=c5 hG th d (t+1) _ _ hV h.2.1;have aq:=c5 hG rest (d+1) t _ _ hV h.2.2;have aF:=ew hV 2 e h.1;have k:(Atom.sg [123]).gk:=cn (.inl (by decide));have i:(Atom.sg [125]).gk:=cn (.inl (by decide));have e1:h4 (aW (t+1) th):=⟨j,dR th _⟩
  unfold aW
  exact(gF t).app (b9 (fN (by decide)) rfl (c9 rfl (rN aF.chain rfl (c9 rfl (b9 k rfl (c9 rfl (e1.app ((gF t).app (b9 i rfl (c9 rfl aq))))))))))
 | .ret rest,d,t,V,T,hV,h=>by
  have q:fk G d V T rest:=by cases d<;>exact h
  have aq:=c5 hG rest d t _ _ hV q;have a:(Atom.sg [59]).gk:=cn (.inl (by decide));unfold aW;exact(gF t).app (iE (fN (by decide)) rfl (b9 a rfl (c9 rfl aq)))
end Go.Proofs.YtflecliffjbleaaGreat
