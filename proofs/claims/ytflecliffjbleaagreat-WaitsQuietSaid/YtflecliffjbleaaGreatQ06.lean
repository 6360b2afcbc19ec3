/- Part 6 of the proof. No condition of its own. -/
import Derived.Test.YtflecliffjbleaaGreatQ04
import Derived.Test.YtflecliffjbleaaGreatQ05
namespace Go.Proofs.YtflecliffjbleaaGreat
open Go.RowKit Go.Proofs.Tryz
set_option maxRecDepth 1000000
set_option maxHeartbeats 25600000
set_option linter.unusedVariables false
variable{t:Int}{k m:Nat}
def nI(l:List Int)(t:Int):Int:=if t<0 then -1 else l.getD t.toNat (-1)
def cZ(l:List Int):Nat->Int->Int
 | 0,t=>t
 | k+1,t=>if t<0 then t else cZ l k (nI l t)
def cD(l:List Int):Prop:=∀x∈l,-1<=x/\x<l.length
section
variable {l:List Int}
theorem oY(h:t<0):∀k,cZ l k t=t
 | 0=>rfl
 | k+1=>by rw[cZ,if_pos h]
theorem gS:∀(a b:Nat) (t:Int),cZ l (a+b) t=cZ l b (cZ l a t)
 | 0,b,t=>by rw[Lt];rfl
 | a+1,b,t=>by
  rw[show a+1+b=(a+b)+1 by omega,cZ,cZ];split
  .rename_i h;rw[oY h]
  .exact gS a b _
theorem qb(k:Nat)(t:Int):cZ l (k+1) t=cZ l 1 (cZ l k t):=gS k 1 t
theorem sV(h:0<=t):cZ l 1 t=nI l t:=by rw[cZ,if_neg ab,cZ]
theorem jI(hl:cD l)(t:Int):-1<=nI l t/\nI l t<l.length:=by
 unfold nI;split
 .omega
 .rw[List.getD_eq_getElem?_getD]
  cases h:l[t.toNat]? with
  | none=>simp;omega
  | some x=>simpa using hl x (Le h)
theorem lr(hl:cD l)(h0:-1<=t)(ae:t<l.length):∀k,-1<=cZ l k t/\cZ l k t<l.length:=by
 intro k
 induction k with
 | zero=>exact⟨h0,ae⟩
 | succ k ao=>
  rw[qb,cZ];split
  .exact ao
  .exact jI hl _
theorem dB{j:Nat}(h:0<=cZ l k t)(bd:j<=k):0<=cZ l j t:=by
 rcases Int.lt_or_le (cZ l j t) 0 with hn|hn
 .have:=gS (l:=l) j (k - j) t;rw[show j+(k - j)=k by omega,oY hn] at this;omega
 .exact hn
theorem ou:∀(n:Nat) (m:List Nat),m.Nodup->(∀x∈m,x<n)->m.length<=n
 | 0,[],_,_=>Lb _
 | 0,x::m,_,h=>absurd (h x (by simp)) ab
 | n+1,m,hn,h=>by
  have ao:=ou n (m.erase n) (hn.erase n) λx hx=>by
   have ae:=h x (List.mem_of_mem_erase hx);have aD:x≠n:=λe=>by
    subst e;exact(List.Nodup.not_mem_erase hn) hx
   omega
  rw[List.length_erase] at ao;split at ao<;>omega
theorem rU(hl:cD l)(ae:t<l.length)(h:0<=cZ l l.length t):∃i j,i<j/\j<=l.length/\cZ l i t=cZ l j t:=by
 have h0:0<=t:=dB (j:=0) h (Lx _);refine Classical.byContradiction λa9=>?_;have aS:((List.range (l.length+1)).map λk=>(cZ l k t).toNat).Nodup:=by
  rw[List.Nodup,List.pairwise_iff_getElem];intro i j ak bd v heq;simp only[Lf,List.length_range] at ak bd;simp only[List.getElem_map,List.getElem_range] at heq;have f1:=dB (j:=i) h ab;have b9:=dB (j:=j) h ab;exact a9 ⟨i,j,v,ab,ab⟩
 have:=ou l.length _ aS λx hx=>by
  obtain⟨k,ai,rfl⟩:=Lz.1 hx;have b:=List.mem_range.1 ai;have aD:=dB (j:=k) h ab;have aU:=(lr hl ab ae k).2;omega
 simp only[Lf,List.length_range] at this;omega
def pq(l:List Int)(t:Int):Prop:=∀k,0<=cZ l k t
theorem ue{c:Int}{d:Nat}(h:cZ l d c=c):∀m,cZ l (m*d) c=c
 | 0=>by rw[Nat.zero_mul];rfl
 | m+1=>by rw[Nat.succ_mul,gS,ue h m,h]
theorem l3{c:Int}{d:Nat}(h0:0<=c)(hd:0<d)(h:cZ l d c=c):pq l c:=λk=>by
 refine dB (k:=k*d) (by rw[ue h];exact h0) ?_;exact Nat.le_mul_of_pos_right k hd
theorem pG(hl:cD l)(ae:t<l.length)(h:0<=cZ l l.length t):pq l t:=by
 obtain⟨i,j,v,bd,he⟩:=rU hl ae h;have hc:=dB (j:=i) h ab;have hd:cZ l (j - i) (cZ l i t)=cZ l i t:=by rw[<-gS,show i+(j - i)=j by omega,he]
 have aW:=l3 hc ab hd;intro k;have:=aW k;rw[<-gS] at this;exact dB this ab
theorem pq.next(h:pq l t):pq l (nI l t):=λk=>by
 have h0:=h 0;have:=h (k+1);rw[cZ,if_neg (by exact Int.not_lt.2 h0)] at this;exact this
def gx(l:List Int):List Int:=((List.range l.length).map Int.ofNat).filter λt=>decide (0<=cZ l (l.length+1) t)
theorem ez(hl:cD l):t∈gx l↔0<=t/\t<l.length/\pq l t:=by
 unfold gx;rw[List.mem_filter];constructor
 .rintro⟨ae,aD⟩;obtain⟨k,ai,rfl⟩:=Lz.1 ae;have b:=List.mem_range.1 ai;have a:0<=cZ l (l.length+1) (Int.ofNat k):=by simpa using aD
  exact⟨Int.natCast_nonneg k,by show (k:Int)<_;omega,pG hl (by show (k:Int)<_;omega) (dB a ab)⟩
 .rintro⟨h0,ae,aD⟩;refine⟨Lz.2 ⟨t.toNat,List.mem_range.2 ab,by show ((t.toNat:Nat):Int)=t;omega⟩,by simpa using aD _⟩
theorem tU(hl:cD l)(h:t∈gx l):nI l t∈gx l:=by
 obtain⟨h0,ae,aD⟩:=(ez hl).1 h;exact(ez hl).2 ⟨aD.next 0,(jI hl t).2,aD.next⟩
theorem v7(hl:cD l){S:Int->Prop}(hS:∀t,S t->0<=t/\S (nI l t))(ht:S t)(ae:t<l.length):t∈gx l:=by
 refine(ez hl).2 ⟨(hS t ht).1,ae,λk=>?_⟩;have:∀(k:Nat) (t:Int),S t->0<=cZ l k t:=by
  intro k
  induction k with
  | zero=>exact λt ht=>(hS t ht).1
  | succ k ao=>
   intro t ht;rw[cZ,if_neg (by have:=(hS t ht).1;omega)];exact ao _ (hS t ht).2
 exact this k t ht
def cT(l:List Int)(k:Nat)(t:Nat):Bool:=decide (t<l.length) && decide (0<=cZ l k (t:Int))
def jJ(l:List Int)(f:Nat->Bool)(t:Nat):Bool:=decide (t<l.length) && f t && decide (0<=nI l (t:Int)) && f (nI l (t:Int)).toNat
theorem m6(hl:cD l)(k t:Nat):jJ l (cT l k) t=cT l (k+1) t:=by
 unfold jJ cT;by_cases ht:t<l.length
 .have hs:cZ l (k+1) (t:Int)=cZ l k (nI l t):=by rw[cZ,if_neg ab]
  rw[hs];simp only[ht,decide_true,Bool.true_and];by_cases hn:0<=nI l (t:Int)
  .have aw:=(jI hl (t:Int)).2;have e:((nI l (t:Int)).toNat:Int)=nI l t:=ab;have dp:(nI l (t:Int)).toNat<l.length:=ab;rw[e];simp only[hn,dp,decide_true,Bool.and_true,Bool.true_and];by_cases J:0<=cZ l k (nI l (t:Int))
   .have:0<=cZ l k (t:Int):=dB (k:=k+1) (by rw[hs];exact J) ab;simp[J,this]
   .simp[J]
  .have J:¬0<=cZ l k (nI l (t:Int)):=λh=>hn (dB (j:=0) h (Lx _));simp[hn,J]
 .simp[ht]
theorem sd(hl:cD l){k:Nat}(h:∀t,t<l.length->cT l (k+1) t=cT l k t):∀m t,t<l.length->cT l (k+m) t=cT l k t
 | 0,t,_=>rfl
 | m+1,t,ht=>by
  have ao:=sd hl h m;rw[show k+(m+1)=(k+m)+1 by omega,<-m6 hl,<-h t ht,<-m6 hl];unfold jJ;have e1:∀t,t<l.length->cT l (k+m) t=cT l k t:=ao;rw[e1 t ht];by_cases hn:0<=nI l (t:Int)
  .have aw:=(jI hl (t:Int)).2;rw[e1 (nI l (t:Int)).toNat ab]
  .simp[hn]
theorem zd(hl:cD l)(h:∀t,t<l.length->cT l (k+1) t=cT l k t){t:Nat}(ht:t<l.length):cT l k t=true↔(t:Int)∈gx l:=by
 rw[ez hl];have ae:=sd hl h l.length t ht;constructor
 .intro ai;rw[ai] at ae;have aD:0<=cZ l (k+l.length) (t:Int):=by simpa[cT,ht] using ae
  exact⟨ab,ab,pG hl ab (dB aD ab)⟩
 .rintro⟨_,_,aW⟩;simp[cT,ht,aW k]
theorem uU{t:Nat}(h:cT l (k+1) t=true):cT l k t=true:=by
 unfold cT at *;simp only[Ln,LI] at h ⊢;exact⟨h.1,dB h.2 ab⟩
def dQ(l:List Int)(t:Int):Option Nat:=(List.range l.length).find? λm=>decide (cZ l (m+1) t=t)
def ma(l:List Int):List Int:=
 match ((List.range l.length).map Int.ofNat).find? λt=>(dQ l t).isSome with
 | none=>[]
 | some t=>(List.range ((dQ l t).getD 0+1)).map λk=>cZ l k t
theorem pS(h:dQ l t=some m):m<l.length/\cZ l (m+1) t=t:=by
 unfold dQ at h;have ae:=List.mem_of_find?_eq_some h;have aD:=List.find?_some h;exact⟨List.mem_range.1 ae,by simpa using aD⟩
theorem mL(hm:m<l.length)(h:cZ l (m+1) t=t):(dQ l t).isSome=true:=by
 unfold dQ;rw[List.find?_isSome];exact⟨m,List.mem_range.2 hm,by simpa using h⟩
theorem IG(hl:cD l):(0<(ma l).length)↔(0<(gx l).length):=by
 constructor
 .intro h;unfold ma at h
  cases J:((List.range l.length).map Int.ofNat).find? λt=>(dQ l t).isSome with
  | none=>rw[J] at h;simp at h
  | some t=>
   have ae:=List.mem_of_find?_eq_some J;have aD:=List.find?_some J;obtain⟨k,ai,rfl⟩:=Lz.1 ae;have b:=List.mem_range.1 ai
   cases hc:dQ l (Int.ofNat k) with
   | none=>rw[hc] at aD;cases aD
   | some m=>
    obtain⟨_,aU⟩:=pS hc;have:(k:Int)∈gx l:=(ez hl).2 ⟨ab,ab,l3 ab (Nat.succ_pos m) aU⟩;exact List.length_pos_of_mem this
 .intro h;obtain⟨t,ht⟩:=List.exists_mem_of_length_pos h;obtain⟨h0,ae,aD⟩:=(ez hl).1 ht;obtain⟨i,j,v,bd,he⟩:=rU hl ae (aD _);have aQ:=(lr hl ab ae i)
  have ak:=aD i;have hs:(dQ l (cZ l i t)).isSome=true:=mL (m:=j - i - 1) ab (by rw[<-gS,show i+(j - i - 1+1)=j by omega,he]);have a:(((List.range l.length).map Int.ofNat).find? λt=>(dQ l t).isSome).isSome=true:=by
   rw[List.find?_isSome];exact⟨cZ l i t,Lz.2 ⟨(cZ l i t).toNat,List.mem_range.2 ab,by show (((cZ l i t).toNat:Nat):Int)=_;omega⟩,hs⟩
  unfold ma
  cases J:((List.range l.length).map Int.ofNat).find? λt=>(dQ l t).isSome with
  | none=>rw[J] at a;cases a
  | some t=>simp
theorem IH(hl:cD l){i:Nat}{x:Int}(h:(ma l)[i]?=some x):0<=x/\x<l.length/\(ma l)[(i+1) % (ma l).length]?=some (nI l x)/\∃y,(ma l)[0]?=some y/\y<=x:=by
 unfold ma at h ⊢
 cases J:((List.range l.length).map Int.ofNat).find? λt=>(dQ l t).isSome with
 | none=>rw[J] at h;simp at h
 | some t=>
  rw[J] at h;simp only[] at h ⊢;have ae:=List.mem_of_find?_eq_some J;have aD:=List.find?_some J;obtain⟨k,ai,rfl⟩:=Lz.1 ae;have b:=List.mem_range.1 ai
  cases hc:dQ l (Int.ofNat k) with
  | none=>rw[hc] at aD;cases aD
  | some m=>
   rw[hc] at h;simp only[Option.getD_some] at h ⊢;obtain⟨hm,aU⟩:=pS hc;have aW:pq l (k:Int):=l3 ab (Nat.succ_pos m) aU;have ak:i<m+1:=by have:=(List.getElem?_eq_some_iff.1 h).1;simpa using this
   rw[List.getElem?_map,List.getElem?_range ak] at h;simp only[Option.map_some,LG] at h;subst h;have aQ:=lr hl (t:=(k:Int)) ab ab i;have U:0<=cZ l i (Int.ofNat k):=aW i;refine⟨U,aQ.2,?_,k,?_,?_⟩
   .rw[Lf,List.length_range];by_cases j:i=m
    .subst j;rw[Nat.mod_self,List.getElem?_map,List.getElem?_range ab];simp only[Option.map_some,LG];rw[<-sV U,<-gS,aU];rfl
    .rw[Nat.mod_eq_of_lt ab,List.getElem?_map,List.getElem?_range ab];simp only[Option.map_some,LG];rw[qb,sV U]
   .rw[List.getElem?_map,List.getElem?_range ab];rfl
   .refine Classical.byContradiction λaw=>?_;have hs:(dQ l (cZ l i (Int.ofNat k))).isSome=true:=mL hm (by
     rw[<-gS,show i+(m+1)=(m+1)+i by omega,gS,aU])
    have a:(cZ l i (Int.ofNat k)).toNat<k:=ab;rw[List.find?_map] at J
    cases aK:(List.range l.length).find? ((λt=>(dQ l t).isSome) ∘ Int.ofNat) with
    | none=>rw[aK] at J;cases J
    | some bJ=>
     rw[aK] at J;simp only[Option.map_some,LG] at J;have co:bJ=k:=by have:(bJ:Int)=(k:Int):=J;omega
     subst co;rw[List.find?_range_eq_some] at aK;have:=aK.2.2 _ a;simp only[Function.comp,Bool.not_eq_true'] at this;rw[show Int.ofNat (cZ l i (Int.ofNat bJ)).toNat=cZ l i (Int.ofNat bJ) by show (((cZ l i (Int.ofNat bJ)).toNat:Nat):Int)=_;omega,hs] at this;cases this
end
theorem Sl.xY{w:World}{P:Nat->Prop}{A:LP}{n:Nat}{l:List Int}(h:Sl w P A n (l.map .i))(ai:k<n):
  ∃b o x,A=some ⟨b,o,none⟩/\P b/\l[k]?=some x/\w.cell? ⟨b,o+k,none⟩=some (.int .i64 x):=by
 obtain⟨b,o,x,cs,bp,O,hx,aQ,hl,hc⟩:=Sl.gZ (z:=1) h (λ_=>rfl) ai;simp only[D.rep] at aQ;subst aQ;exact⟨b,o,x,bp,O,hx,by have:=hc 0 _ rfl;simpa using this⟩
theorem j9(A A2:LP)(n c n2 c2:Nat)(S T:List Int)(w:World)(hs:Sl w (au w) A n (S.map .i))(ht:Sl w (au w) A2 n2 (T.map .i))(hn:n<=140737488355328) :
  Calls prog 11 #[.slice A n c,.slice A2 n2 c2] w λr ac=>r=.returned (.bool (decide (S=T)))/\Below w.heap.size w ac:=by
 have hl:S.length=n:=by have:=hs.1;simpa using this
 have I:T.length=n2:=by have:=ht.1;simpa using this
 by_cases a6:n=n2
 case neg=>
  have aZ:=ad (show decide (S=T)=false from decide_eq_false (λh=>a6 (by rw[<-hl,<-I,h])));have f:(n != n2)=true:=by simpa using a6
  have e:((n:Int) != (n2:Int))=true:=by simp;omega
  clear hl I a6;go_enter func11,ntmps11;go_wp2;go_ret;exact⟨ret_bool (by rw[aZ.o]),Below.refl _ _⟩
 subst a6;obtain⟨bN,U⟩:=aM hl I;clear hl I;have bB:((n:Int) != (n:Int))=false:=by simp
 go_enter func11,ntmps11;go_wp2;go_loopw [5] (λi wr=>∃k:Nat,k<=n/\i=.int .i64 k/\(∀j,j<k->S[j]?=T[j]?)/\Below w.heap.size w wr) (λi _=>n - (intOf i).toNat)
 case atStart=>exact⟨0,Lx _,rfl,λj bd=>absurd bd ab,Below.refl _ _⟩
 case round=>
  obtain⟨k,ai,rfl,a9,O⟩:=hrel;have aI:=ad a9;clear a9;by_cases aw:k<n
  .obtain⟨b,o,x,rfl,al,hx,c0⟩:=(hs.on O).xY aw;obtain⟨M,av,d,rfl,l,g,d0⟩:=(ht.on O).xY aw;have bw:(0:Int)<=(k:Int):=ab;have ci:(k:Int)<(n:Int):=ab;by_cases hd:x=d
   .have aR:=ad (show S[k]?=T[k]? by rw[hx,g,hd]);have G:(x != d)=false:=by simp[hd]
    clear hx g hd;go_wp2;go_quiet (fail)
    go_wp2;go_roundw
    case rel=>
     refine⟨k+1,ab,by go_num,λj bd=>?_,dA O _⟩;exact zS
    case measure=>exact az
   .have aZ:=ad (show decide (S=T)=false from decide_eq_false (λh=>by
     subst h;rw[hx] at g;injection g with g;exact hd g))
    have G:(x != d)=true:=by simp[hd]
    clear hx g hd;go_wp2;go_quiet (fail)
    go_wp2;go_ret;exact⟨ret_bool (by rw[aZ.o]),dA O _⟩
  .obtain rfl:k=n:=ab;have aZ:=ad (show decide (S=T)=true from decide_eq_true (by
    apply List.ext_getElem?
    intro j;by_cases bd:j<k
    .exact aI.o j bd
    .rw[List.getElem?_eq_none (aC bN.o),List.getElem?_eq_none (aC U.o)]))
   exact tM
theorem yJ(A:LP)(n c:Nat)(S:List Int)(bs:Int)(w:World)(hs:Sl w (au w) A n (S.map .i))(hn:n<=140737488355328) :
  Calls prog 121 #[.slice A n c,.int .i64 bs] w λr ac=>r=.returned (.bool (decide (bs∈S)))/\Below w.heap.size w ac:=by
 have hl:S.length=n:=by have:=hs.1;simpa using this
 have bN:=ad hl;clear hl;go_enter func121,ntmps121;go_wp2;go_loopw [5] (λi wr=>∃k:Nat,k<=n/\i=.int .i64 k/\(∀j,j<k->S[j]?≠some bs)/\Below w.heap.size w wr) (λi _=>n - (intOf i).toNat)
 case atStart=>exact⟨0,Lx _,rfl,λj bd=>absurd bd ab,Below.refl _ _⟩
 case round=>
  obtain⟨k,ai,rfl,a9,O⟩:=hrel;have aI:=ad a9;clear a9;by_cases aw:k<n
  .obtain⟨b,o,x,rfl,al,hx,c0⟩:=(hs.on O).xY aw;have bw:(0:Int)<=(k:Int):=ab;have ci:(k:Int)<(n:Int):=ab;by_cases hd:x=bs
   .have aZ:=ad (show decide (bs∈S)=true from decide_eq_true (hd▸Le hx));have G:(x == bs)=true:=by simp[hd]
    clear hx hd;exact tM
   .have aR:=ad (show S[k]?≠some bs by rw[hx];intro h;injection h with h;exact hd h);have G:(x == bs)=false:=by simp[hd]
    clear hx hd;go_wp2;go_roundw
    case rel=>
     refine⟨k+1,ab,by go_num,λj bd=>?_,O⟩;exact zS
    case measure=>exact az
  .obtain rfl:k=n:=ab;have aZ:=ad (show decide (bs∈S)=false from decide_eq_false (λh=>by
    obtain⟨j,bd,he⟩:=List.mem_iff_getElem.1 h;exact aI.o j (aC bN.o) (by rw[List.getElem?_eq_getElem bd,he])))
   exact tM
theorem yX(Q:Int)(A:LP)(n c:Nat)(L:List Int)(p:bJ)(q:List Value)(sl:Value)(w:World)(hs:Sl w (au w) A n (L.map .i))(hn:n<=140737488355328)(hp:p.param=true->0<=p.index/\p.index<n) :
  Calls prog 120 #[.agg #[.int .i64 Q,.slice A n c],.agg #[.bool p.param,.int .i64 p.index,sl]] w λr ac=>r=.returned (.int .i64 (if p.param then L.getD p.index.toNat 0 else p.index))/\Ext w ac:=by
 obtain⟨pm,i,a⟩:=p;simp only at hp ⊢;cases pm
 .go_enter func120,ntmps120;go_wp2;go_ret;exact⟨rfl,(LL.alloc _).alloc _⟩
 .obtain⟨h0,ae⟩:=hp rfl;obtain⟨k,rfl⟩:=Lg h0;have ai:k<n:=ab;obtain⟨b,o,x,rfl,al,hx,c0⟩:=hs.xY ai;have aR:=ad (show L.getD (Int.toNat k) 0=x by rw[List.getD_eq_getElem?_getD,Lw,hx];rfl);clear hx;suffices aH:Calls prog 120 #[.agg #[.int .i64 Q,.slice (some ⟨b,o,none⟩) n c],.agg #[.bool true,.int .i64 (k:Int),sl]] w λr ac=>r=.returned (.int .i64 x)/\Ext w ac from
   aH.mono λe aP ae=>⟨ae.1.trans (by rw[<-aR.o];simp),ae.2⟩
  go_enter func120,ntmps120;go_wp2;go_ret;exact⟨rfl,(LL.alloc _).alloc _⟩
def jy(n:Nat):List UInt8:=if n<10 then [UInt8.ofNat (48+n)] else jy (n / 10)++[UInt8.ofNat (48+n % 10)]
 termination_by n
theorem mM(d:Nat)(h:d<10):(UInt8.ofNat (48+d)).toNat=48+d:=by simp;omega
theorem tV(n:Nat):(jy n).all br=true/\∃c l,jy n=c::l:=by
 induction n using Nat.strongRecOn with
 | _ n ao=>
  rw[jy];split
  .rename_i h;refine⟨?_,_,_,rfl⟩;simp only[List.all_cons,List.all_nil,Bool.and_true,br,mM n h,Ln,LI];omega
  .obtain⟨ae,c,l,aD⟩:=ao (n / 10) ab;refine⟨?_,c,l++[UInt8.ofNat (48+n % 10)],by rw[aD];rfl⟩;simp only[List.all_append,ae,List.all_cons,List.all_nil,Bool.and_true,Bool.true_and,br,mM (n % 10) ab,Ln,LI];omega
theorem r6:∀(cA N:List UInt8) (n:Int),0<=n->cA.all br=true->iF n (cA++N)=if iF n cA<0 then -1 else iF (iF n cA) N
 | [],N,n,hn,_=>by
  have h0:iF n []=n:=rfl
  rw[LD,h0,if_neg ab]
 | c::cA,N,n,hn,h=>by
  simp only[List.all_cons,Ln] at h;have hd:48<=c.toNat:=by have:=h.1;simp only[br,Ln,LI] at this;exact this.1
  simp only[Lq,iF];split
  .simp
  .exact r6 cA N _ ab h.2
theorem yZ(n:Nat)(h:n<=9223372036854775807):nH (jy n)=n:=by
 unfold nH
 induction n using Nat.strongRecOn with
 | _ n ao=>
  rw[jy];split
  .rename_i h;simp only[iF,mM n h];rw[if_neg ab];omega
  .have i:=ao (n / 10) ab ab;rw[r6 _ _ _ ab (tV _).1,i,if_neg ab];simp only[iF,mM (n % 10) ab];rw[if_neg ab];omega
def Atom.last(aI:List Atom):Option Atom:=aI.getLast?
theorem dZ:∀(aI f:List Atom),Atom.chain aI->Atom.chain f->(∀a b,aI.getLast?=some a->f.head?=some b->a.fits b)->Atom.chain (aI++f)
 | [],f,_,O,_=>O
 | [a],[],aW,_,_=>aW
 | [a],b::f,aW,O,J=>⟨aW,J a b rfl rfl,O⟩
 | a::r::aI,f,aW,O,J=>by
  have ao:=dZ (r::aI) f aW.2.2 O (λx y hx a4=>J x y (by rw[List.getLast?_cons_cons];exact hx) a4);exact⟨aW.1,aW.2.1,ao⟩
theorem count_append:∀(aI f:List Atom),Atom.count (aI++f)=Atom.count aI+Atom.count f
 | [],f=>by simp[Atom.count]
 | a::aI,f=>by
  have ao:=count_append aI f;cases a<;>simp only[Lq,Atom.count,ao]<;>omega
def aU(aI:List Atom):List UInt8:=aI.flatMap Atom.bytes
theorem a2(aI f:List Atom):aU (aI++f)=aU aI++aU f:=List.flatMap_append
theorem aY(a:Atom)(f:List Atom):aU (a::f)=a.bytes++aU f:=Lv
theorem po(c:UInt8)(b:Atom):(Atom.ws c).fits b:=⟨λh=>by simp[Atom.jF] at h,λs h=>by cases h⟩
theorem oX(a:Atom)(c:UInt8)(h:oM c=true):a.fits (.ws c):=by
 refine⟨λ_=>rfl,λs _ _ d hd=>?_⟩;simp only[Atom.head,LG] at hd;subst hd;have key:∀s∈eh,∀d:UInt8,(d=32\/d=9\/d=10\/d=13)->(s++[d])∉eW/\¬(s=[47]/\d=47):=by
  intro s hs d hd;rcases hd with rfl|rfl|rfl|rfl<;>revert s<;>decide
 refine key s (by assumption) c ?_;simp only[oM,Bool.or_eq_true,beq_iff_eq] at h;rcases h with((h|h)|h)|h<;>simp[h]
theorem xI(a b:Atom)(aW:a.jF=true)(O:b.jF=false):a.fits b:=⟨λ_=>O,λs h=>by subst h;simp[Atom.jF] at aW⟩
def tt(a:Atom):Prop:=a.jF=true/\a.fG\/a=.sg [45]\/a=.sg [33]\/a=.sg [40]
def GO(a:Atom):Prop:=a.jF=true\/a=.sg [41]\/a=.sg [93]
theorem Fc(a:Atom)(h:a.jF=true)(aK:a.fG)(c:UInt8)(hc:a.head=some c):b1 c=true:=by
 cases a with
 | ws _=>simp[Atom.jF] at h
 | sg _=>simp[Atom.jF] at h
 | word s=>
  obtain⟨⟨d,l,rfl,ae,_⟩,_⟩:=aK;simp only[Atom.head,List.head?_cons,LG] at hc;subst hc
  simp[b1,ae]
 | num s=>
  obtain⟨⟨d,l,rfl⟩,ae,_⟩:=aK;simp only[Atom.head,List.head?_cons,LG] at hc;subst hc;simp only[List.all_cons,Ln] at ae;simp[b1,ae.1]
theorem nP(s:List UInt8)(hs:s=[45]\/s=[33]\/s=[40]\/s=[91])(b:Atom)(O:tt b):(Atom.sg s).fits b:=by
 refine⟨λh=>by simp[Atom.jF] at h,λt ht _ c hc=>?_⟩;injection ht with ht;subst ht;have Z:b1 c=true\/c=45\/c=33\/c=40:=by
  rcases O with⟨ae,aD⟩|rfl|rfl|rfl
  .exact .inl (Fc b ae aD c hc)
  all_goals simp[Atom.head] at hc;subst hc;simp
 have a6:c≠61/\c≠38/\c≠124/\c≠47:=by
  rcases Z with h|rfl|rfl|rfl
  .refine⟨?_,?_,?_,?_⟩<;>(rintro rfl;revert h;decide)
  all_goals decide
 rcases hs with rfl|rfl|rfl|rfl<;>simp[eW,a6]
theorem oV(a:Atom)(aW:GO a)(s:List UInt8)(hs:s=[41]\/s=[93]\/s=[59]\/s=[44]):a.fits (.sg s):=by
 rcases aW with h|rfl|rfl
 .exact xI _ _ h rfl
 all_goals
  refine⟨λh=>by simp[Atom.jF] at h,λt ht _ c hc=>?_⟩;injection ht with ht;subst ht;rcases hs with rfl|rfl|rfl|rfl<;>(simp[Atom.head] at hc;subst hc;decide)
end Go.Proofs.YtflecliffjbleaaGreat
