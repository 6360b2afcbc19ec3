/- Part 12 of the proof. No condition of its own. -/
import Derived.Test.YtflecliffjbleaaGreatQ11
namespace Go.Proofs.YtflecliffjbleaaGreat
open Go.RowKit Go.Proofs.Tryz
set_option maxRecDepth 1000000
set_option maxHeartbeats 25600000
set_option linter.unusedVariables false
variable{cs:List Value}{P:Nat->Prop}{p:Prop}{w:World}{s:ax}
def ax.kind:ax->Int
 | .set v _ _=>if v then 1 else 2
 | .call g _ _=>if g then 4 else 3
 | .lock u _=>if u then 6 else 5
 | .ite ..=>7
 | .gp ..=>8
 | .ret=>9
def ax.name:ax->ByteArray
 | .set _ n _=>n
 | .call _ n _=>n
 | _=>⟨#[]⟩
def ax.expr:ax->Option VE
 | .set _ _ e=>some e
 | .ite e _ _=>some e
 | .gp e _=>some e
 | _=>none
def ax.ref:ax->Option eN
 | .lock _ r=>some r
 | _=>none
def ax.args:ax->List dd
 | .call _ _ aI=>aI
 | _=>[]
def ax.th:ax->ak
 | .ite _ th _=>th
 | .gp _ th=>th
 | _=>.nil
def ax.el:ax->ak
 | .ite _ _ el=>el
 | _=>.nil
def pY:Option eN->D
 | none=>fQ
 | some r=>kJ r
theorem rQ(s:ax):a9 s=gz s.kind s.name (oH s.expr) (pY s.ref) (s.args.map eD) (cY s.th) (cY s.el):=by
 cases s<;>rfl
theorem nB(s:ax):(a9 s).sz=11:=by
 rw[rQ];have ae:(oH s.expr).sz=4:=by
  cases s.expr with
  | none=>rfl
  | some x=>exact dg x
 have aD:(pY s.ref).sz=2:=by cases s.ref<;>rfl
 unfold gz;simp only[D.sz,D.zh,ae,aD]
theorem pZ{x:Option VE}(h:(oH x).rep w P cs):∃o n s A m c,cs=[.int .i64 o,.int .i64 n,.string s,.slice A m c]:=by
 cases x with
 | none=>obtain⟨A,c,rfl⟩:=fa.1 h;exact⟨_,_,_,_,_,_,rfl⟩
 | some x=>obtain⟨A,n,c,rfl,_⟩:=aW.1 h;exact⟨_,_,_,_,_,_,rfl⟩
theorem tX{x:Option eN}(h:(pY x).rep w P cs):∃s A m c,cs=[.string s,.slice A m c]:=by
 cases x with
 | none=>
  unfold pY fQ at h;rw[bB,ch] at h;obtain⟨z,rfl,hx⟩:=h;obtain⟨A,n,c,bF,rfl,_,_,ba⟩:=aF.1 hx;rw[aK] at ba;subst ba
  exact⟨_,_,_,_,rfl⟩
 | some x=>obtain⟨A,n,c,rfl,_⟩:=jB.1 h;exact⟨_,_,_,_,rfl⟩
structure Io(w:World)(P:Nat->Prop)(s:ax)(eo en:Int)(es:ByteArray)(EA:LP)(em ec:Nat)(rs:ByteArray)(cn:LP)(cU rc:Nat)(cy:LP)(n1:Nat)(A2:LP)(n2:Nat)(ck:LP)(n3:Nat):Prop where
 expr:(oH s.expr).rep w P [.int .i64 eo,.int .i64 en,.string es,.slice EA em ec]
 ref:(pY s.ref).rep w P [.string rs,.slice cn cU rc]
 args:Sl w P cy n1 (s.args.map eD)
 th:Sl w P A2 n2 (cY s.th)
 el:Sl w P ck n3 (cY s.el)
theorem lC(h:(a9 s).rep w P cs):∃eo en es EA em ec rs cn cU rc cy n1 c1 A2 n2 c2 ck n3 c3,
  cs=[.int .i64 s.kind,.string s.name,.int .i64 eo,.int .i64 en,.string es,.slice EA em ec,.string rs,.slice cn cU rc,.slice cy n1 c1,.slice A2 n2 c2,.slice ck n3 c3]/\
  Io w P s eo en es EA em ec rs cn cU rc cy n1 A2 n2 ck n3:=by
 rw[rQ] at h;unfold gz at h;rw[bB,a5] at h;obtain⟨y,rfl,h⟩:=h;rw[ch] at h;obtain⟨br,rfl,h⟩:=h;obtain⟨E,aa,rfl,he,h⟩:=dy.1 h;obtain⟨ay,cM,rfl,aQ,h⟩:=dy.1 h;obtain⟨cy,n1,c1,a,rfl,_,ae,h⟩:=aF.1 h;obtain⟨A2,n2,c2,b,rfl,_,aD,h⟩:=aF.1 h;obtain⟨ck,n3,c3,d,rfl,_,aU,h⟩:=aF.1 h;rw[aK] at h;subst h;obtain⟨o,n,s,A,m,c,rfl⟩:=pZ he;obtain⟨a7,I,fV,aA,rfl⟩:=tX aQ
 iterate 19 apply Exists.intro
 exact⟨rfl,he,aQ,ae,aD,aU⟩
def nR:ak->Prop
 | .nil=>True
 | .set _ _ e rest=>(∃N d,e.src N d)/\nR rest
 | .call _ _ aI rest=>((∀a∈aI,FO a)/\aI.length<=1000)/\nR rest
 | .lock _ r rest=>Ei r/\nR rest
 | .ite e th el rest=>(∃N d,e.src N d)/\nR th/\nR el/\nR rest
 | .gp e th rest=>(∃N d,e.src N d)/\nR th/\nR rest
 | .ret rest=>nR rest
def hg(b:ak):Prop:=∀(t:Nat) (A:LP) (n c:Nat) (w:World),t+b.num<=1000000->Sl w (au w) A n (cY b)->(cA t b).length<=262144->
 Calls prog 131 #[.slice A n c,.string (strOf (List.replicate t 9))] w λe ac=>e=.returned (.string (strOf (cA t b)))/\Ext w ac
structure vu(s:ax)(N:Nat):Prop where
 expr:∀e,s.expr=some e->∃N d,e.src N d
 ref:∀r,s.ref=some r->Ei r
 args:∀a∈s.args,FO a
 iT:s.args.length<=1000
 th:hg s.th
 el:hg s.el
 HD:s.th.num<N\/s.th=.nil
 HC:s.el.num<N\/s.el=.nil
theorem g3{α:Type}{x:α}(h:(none:Option α)=some x):p:=by cases h
theorem JR(f:∀b:ak,(∀s∈b.list,vu s b.num)->hg b):∀b:ak,nR b->hg b/\∀s∈b.list,vu s b.num:=by
 have mono:∀{s:ax} {n m:Nat},n<=m->vu s n->vu s m:=λh k=>⟨k.expr,k.ref,k.args,k.iT,k.th,k.el,k.HD.imp (λx=>Lc x h) id,k.HC.imp (λx=>Lc x h) id⟩
 have c:hg .nil:=f .nil λs hs=>by simp[ak.list] at hs
 have fin:∀b:ak,(∀s∈b.list,vu s b.num)->hg b/\∀s∈b.list,vu s b.num:=λb h=>⟨f b h,h⟩
 intro b
 induction b with
 | nil=>exact λ_=>fin _ λs hs=>by simp[ak.list] at hs
 | set v n e rest ao=>
  intro h;refine fin _ λs hs=>?_;rcases Lr.1 hs with rfl|hs
  .exact⟨λl he=>(by cases he;exact h.1),λr aQ=>g3 aQ,λa aW=>(nomatch aW),by simp[ax.args],c,c,.inr rfl,.inr rfl⟩
  .exact mono (by simp[ak.num]) ((ao h.2).2 s hs)
 | call g n aI rest ao=>
  intro h;refine fin _ λs hs=>?_;rcases Lr.1 hs with rfl|hs
  .exact⟨λl he=>g3 he,λr aQ=>g3 aQ,h.1.1,h.1.2,c,c,.inr rfl,.inr rfl⟩
  .exact mono (by simp[ak.num]) ((ao h.2).2 s hs)
 | lock u r rest ao=>
  intro h;refine fin _ λs hs=>?_;rcases Lr.1 hs with rfl|hs
  .exact⟨λl he=>g3 he,λd aQ=>(by cases aQ;exact h.1),λa aW=>(nomatch aW),by simp[ax.args],c,c,.inr rfl,.inr rfl⟩
  .exact mono (by simp[ak.num]) ((ao h.2).2 s hs)
 | ite e th el rest j o ao=>
  intro h;refine fin _ λs hs=>?_;rcases Lr.1 hs with rfl|hs
  .exact⟨λl he=>(by cases he;exact h.1),λr aQ=>g3 aQ,λa aW=>(nomatch aW),by simp[ax.args],(j h.2.1).1,(o h.2.2.1).1,.inl (by simp[ax.th,ak.num];omega),.inl (by simp[ax.el,ak.num];omega)⟩
  .exact mono (by simp[ak.num];omega) ((ao h.2.2.2).2 s hs)
 | gp e th rest j ao=>
  intro h;refine fin _ λs hs=>?_;rcases Lr.1 hs with rfl|hs
  .exact⟨λl he=>(by cases he;exact h.1),λr aQ=>g3 aQ,λa aW=>(nomatch aW),by simp[ax.args],(j h.2.1).1,c,.inl (by simp[ax.th,ak.num];omega),.inr rfl⟩
  .exact mono (by simp[ak.num];omega) ((ao h.2.2).2 s hs)
 | ret rest ao=>
  intro h;refine fin _ λs hs=>?_;rcases Lr.1 hs with rfl|hs
  .exact⟨λl he=>g3 he,λr aQ=>g3 aQ,λa aW=>(nomatch aW),by simp[ax.args],c,c,.inr rfl,.inr rfl⟩
  .exact mono (by simp[ak.num]) ((ao h).2 s hs)
def iN(t:Nat)(l:List ax):List UInt8:=(l.map (dt t)).flatten
theorem yt{t:Nat}{l:List ax}{k:Nat}(h:l[k]?=some s):iN t (l.take (k+1))=iN t (l.take k)++dt t s:=by
 unfold iN;rw[List.take_add_one,h,Li,List.flatten_append];simp
theorem xH(t:Nat)(l:List ax)(k:Nat):(iN t (l.take k)).length<=(iN t l).length:=by
 conv=>rhs;rw[<-List.take_append_drop k l]
 unfold iN;rw[Li,List.flatten_append,Ld];omega
theorem eR:∀b:ak,b.list.length<=b.num
 | .nil=>Lb _
 | .set v n e rest=>by have:=eR rest;simp[ak.list,ak.num];omega
 | .call g n aI rest=>by have:=eR rest;simp[ak.list,ak.num];omega
 | .lock u r rest=>by have:=eR rest;simp[ak.list,ak.num];omega
 | .ite e th el rest=>by have:=eR rest;simp[ak.list,ak.num];omega
 | .gp e th rest=>by have:=eR rest;simp[ak.list,ak.num];omega
 | .ret rest=>by have:=eR rest;simp[ak.list,ak.num];omega
namespace Ch
theorem Aa(h:p:=by
 exact Bj
 ):p:=h
theorem vF(h:p:=by
 have P:=ad E;clear Z dJ E bk m bi O;go_upto_region 7 with(fail);generalize be:World.alloc wr _=W;have l:=bb be;have aN:=aT be;obtain⟨bx,z⟩:=aM aN l;have aW:=ad (D.on P.expr (Fr.ext l));have ah:=ad (D.on P.ref (Fr.ext l));have S:=ad (P.args.on (Fr.ext l));have aa:=ad (P.th.on (Fr.ext l));have aK:=ad (P.el.on (Fr.ext l));obtain⟨a0,ap,aj⟩:=aN.two;clear be l aN d0 d1 d2 d3 d4 d5 d6 d7 d8 d9 d10 P aX;have au:(strOf (iN t (b.list.take k))++T).size<=2000000:=by rw[ByteArray.size_append];omega
 generalize M:strOf (iN t (b.list.take k))++T=pre at *;have y:=ad M.symm;clear M ba
 cases s with
 | set v nm e=>
  obtain⟨N,d,hx⟩:=aL.expr e rfl;have aR:=ad (jM N d e hx);have bv:(bR e).length<=262144:=by have:=aG.o;simp[dt] at this;omega
  have f:=ad bv;have bm:(strOf (bR e)).size<=262144:=by rw[aH];exact bv
  have G:nm.size<=262144:=by have:=aG.o;simp[dt] at this;have aD:nm.size=nm.data.toList.length:=rfl;simp at aD;omega
  clear bv hx;simp only[ax.kind,ax.name] at *;cases v
  .simp only[LJ,if_false] at *;have ag:=ad (show (((((pre++nm)++(⟨#[32,61,32]⟩:ByteArray))++strOf (bR e))++(⟨#[59]⟩:ByteArray))++(⟨#[10]⟩:ByteArray))=strOf (iN t (b.list.take (k+1))) by
    rw[i.o,y.o,<-L.o];rw[show (⟨#[32,61,32]⟩:ByteArray)=strOf [32,61,32] from rfl];rw[show (⟨#[59]⟩:ByteArray)=strOf [59] from rfl];rw[show (⟨#[10]⟩:ByteArray)=strOf [10] from rfl];conv=>lhs;rw[<-c9 nm]
    rw[af,af,af,af,af,af];simp[dt])
   go_wp2;refine eU (λ_=>False) [(0,3),(1,3),(2,0),(3,3),(4,3),(5,3),(6,0),(7,1),(8,3),(9,3),(10,3)] ?_
   iterate 2 refine pf ?_
   refine ph ?_;refine bh (v:=?_) rfl (by rfl) (λV=>?_) ?_;rotate_left
   .go_simp;exact dW
   try simp only[PU]
   refine bh (v:=?_) rfl (by rfl) (λV=>?_) ?_;rotate_left
   .go_simp;exact dW
   try simp only[PU]
   refine pf ?_;refine ph ?_;refine aO rfl (λK hK=>?_);go_simp;refine(aR.o _ _ _ _ _ _ _ (D.on aW.o (Fr.ext LL.drew)) f.o).mono ?_;exact z9
  .simp only[if_true] at *;have ag:=ad (show ((((((pre++(⟨#[118,97,114,32]⟩:ByteArray))++nm)++(⟨#[32,61,32]⟩:ByteArray))++strOf (bR e))++(⟨#[59]⟩:ByteArray))++(⟨#[10]⟩:ByteArray))=strOf (iN t (b.list.take (k+1))) by
    rw[i.o,y.o,<-L.o];rw[show (⟨#[118,97,114,32]⟩:ByteArray)=strOf [118,97,114,32] from rfl];rw[show (⟨#[32,61,32]⟩:ByteArray)=strOf [32,61,32] from rfl];rw[show (⟨#[59]⟩:ByteArray)=strOf [59] from rfl];rw[show (⟨#[10]⟩:ByteArray)=strOf [10] from rfl];conv=>lhs;rw[<-c9 nm]
    rw[af,af,af,af,af,af,af];simp[dt])
   go_wp2;refine eU (λ_=>False) [(0,3),(1,3),(2,3),(3,0),(4,3),(5,3),(6,3),(7,0),(8,1),(9,3),(10,3),(11,3)] ?_;refine pf ?_;refine bh (v:=?_) rfl (by rfl) (λV=>?_) ?_;rotate_left
   .go_simp;exact dW
   try simp only[PU]
   refine pf ?_;refine ph ?_;refine bh (v:=?_) rfl (by rfl) (λV=>?_) ?_;rotate_left
   .go_simp;exact dW
   try simp only[PU]
   refine bh (v:=?_) rfl (by rfl) (λV=>?_) ?_;rotate_left
   .go_simp;exact dW
   try simp only[PU]
   refine pf ?_;refine ph ?_;refine aO rfl (λK hK=>?_);go_simp;refine(aR.o _ _ _ _ _ _ _ (D.on aW.o (Fr.ext LL.drew)) f.o).mono ?_
   exact A9
 | call g nm aI=>
  have aR:=ad (sK aI aL.args);have bv:(hB aI).length<=262144:=by have:=aG.o;simp[dt] at this;omega
  have f:=ad bv;have cP:n1<=1000:=by have ae:=S.1;have aD:=aL.iT;simp[ax.args] at ae aD;omega
  have ac:=ad cP;have bm:(strOf (hB aI)).size<=262144:=by rw[aH];exact bv
  have G:nm.size<=262144:=by have:=aG.o;simp[dt] at this;have aD:nm.size=nm.data.toList.length:=rfl;simp at aD;omega
  clear bv cP;simp only[ax.kind,ax.name] at *;cases g
  .simp only[LJ,if_false] at *;have ag:=ad (show ((((pre++nm)++strOf (hB aI))++(⟨#[59]⟩:ByteArray))++(⟨#[10]⟩:ByteArray))=strOf (iN t (b.list.take (k+1))) by
    rw[i.o,y.o,<-L.o];rw[show (⟨#[59]⟩:ByteArray)=strOf [59] from rfl];rw[show (⟨#[10]⟩:ByteArray)=strOf [10] from rfl];conv=>lhs;rw[<-c9 nm]
    rw[af,af,af,af,af];simp[dt])
   go_wp2;refine eU (λ_=>False) [(0,3),(1,3),(2,0),(3,3),(4,3),(5,0),(6,1),(7,3),(8,3),(9,3)] ?_
   iterate 2 refine pf ?_
   exact Bi
  .simp only[if_true] at *;have ag:=ad (show (((((pre++(⟨#[103,111,32]⟩:ByteArray))++nm)++strOf (hB aI))++(⟨#[59]⟩:ByteArray))++(⟨#[10]⟩:ByteArray))=strOf (iN t (b.list.take (k+1))) by
    rw[i.o,y.o,<-L.o];rw[show (⟨#[103,111,32]⟩:ByteArray)=strOf [103,111,32] from rfl];rw[show (⟨#[59]⟩:ByteArray)=strOf [59] from rfl];rw[show (⟨#[10]⟩:ByteArray)=strOf [10] from rfl];conv=>lhs;rw[<-c9 nm]
    rw[af,af,af,af,af,af];simp[dt])
   go_wp2;refine eU (λ_=>False) [(0,3),(1,3),(2,3),(3,0),(4,3),(5,3),(6,0),(7,1),(8,3),(9,3),(10,3)] ?_;refine pf ?_;refine bh (v:=?_) rfl (by rfl) (λV=>?_) ?_;rotate_left
   .go_simp;exact dW
   try simp only[PU]
   refine pf ?_
   exact Bi
 | lock u r=>
  have aR:=ad (kT r (aL.ref r rfl));have bv:(fP r).length<=262144:=by have:=aG.o;simp[dt] at this;omega
  have f:=ad bv;have bm:(strOf (fP r)).size<=262144:=by rw[aH];exact bv
  clear bv;simp only[ax.kind,ax.name] at *;cases u
  .simp only[LJ,if_false] at *;have ag:=ad (show ((((pre++(⟨#[108,111,99,107,32]⟩:ByteArray))++strOf (fP r))++(⟨#[59]⟩:ByteArray))++(⟨#[10]⟩:ByteArray))=strOf (iN t (b.list.take (k+1))) by
    rw[i.o,y.o,<-L.o];rw[show (⟨#[108,111,99,107,32]⟩:ByteArray)=strOf [108,111,99,107,32] from rfl];rw[show (⟨#[59]⟩:ByteArray)=strOf [59] from rfl];rw[show (⟨#[10]⟩:ByteArray)=strOf [10] from rfl];rw[af,af,af,af,af];simp[dt])
   exact Be
  .simp only[if_true] at *;have ag:=ad (show ((((pre++(⟨#[117,110,108,111,99,107,32]⟩:ByteArray))++strOf (fP r))++(⟨#[59]⟩:ByteArray))++(⟨#[10]⟩:ByteArray))=strOf (iN t (b.list.take (k+1))) by
    rw[i.o,y.o,<-L.o];rw[show (⟨#[117,110,108,111,99,107,32]⟩:ByteArray)=strOf [117,110,108,111,99,107,32] from rfl];rw[show (⟨#[59]⟩:ByteArray)=strOf [59] from rfl];rw[show (⟨#[10]⟩:ByteArray)=strOf [10] from rfl];rw[af,af,af,af,af];simp[dt])
   exact Be
 | gp e th=>
  obtain⟨N,d,hx⟩:=aL.expr e rfl;have aR:=ad (jM N d e hx);have bv:(bR e).length<=262144:=by have:=aG.o;simp[dt] at this;omega
  have bg:(cA (t+1) th).length<=262144:=by have:=aG.o;simp[dt] at this;unfold cA;omega
  obtain⟨f,H⟩:=aM bv bg;have bm:(strOf (bR e)).size<=262144:=by rw[aH];exact bv
  have G:(strOf (cA (t+1) th)).size<=262144:=by rw[aH];exact bg
  have q:=ad (show T++⟨#[9]⟩=strOf (List.replicate (t+1) 9) by rw[<-L.o,show (⟨#[9]⟩:ByteArray)=strOf [9] from rfl,af,List.replicate_succ']);have R:=ad (show t+1+th.num<=1000000 by
   have ae:=x.o;have aD:=eR b;have aU:=bN.o;rcases aL.HD with h|h
   .simp only[ax.th] at h;omega
   .simp only[ax.th] at h;subst h;simp only[ak.num];omega)
  clear bv hx bg;simp only[ax.kind,ax.name] at *;obtain rfl:n3=0:=by have:=aK.1;simpa[ax.el,cY] using this.symm
  have ag:=ad (show (((((((pre++(⟨#[119,104,105,108,101,32]⟩:ByteArray))++strOf (bR e))++(⟨#[32,123,10]⟩:ByteArray))++strOf (cA (t+1) th))++T)++(⟨#[125]⟩:ByteArray))++(⟨#[10]⟩:ByteArray))=strOf (iN t (b.list.take (k+1))) by
   rw[i.o,y.o,<-L.o];rw[show (⟨#[119,104,105,108,101,32]⟩:ByteArray)=strOf [119,104,105,108,101,32] from rfl];rw[show (⟨#[32,123,10]⟩:ByteArray)=strOf [32,123,10] from rfl];rw[show (⟨#[125]⟩:ByteArray)=strOf [125] from rfl];rw[show (⟨#[10]⟩:ByteArray)=strOf [10] from rfl];rw[af,af,af,af,af,af,af,af];simp[dt,cA])
  exact A8
 | ite e th el=>
  obtain⟨N,d,hx⟩:=aL.expr e rfl;have aR:=ad (jM N d e hx);have bv:(bR e).length<=262144:=by have:=aG.o;simp[dt] at this;omega
  have bg:(cA (t+1) th).length<=262144:=by have:=aG.o;simp[dt] at this;unfold cA;omega
  obtain⟨f,H⟩:=aM bv bg;have bm:(strOf (bR e)).size<=262144:=by rw[aH];exact bv
  have G:(strOf (cA (t+1) th)).size<=262144:=by rw[aH];exact bg
  have q:=ad (show T++⟨#[9]⟩=strOf (List.replicate (t+1) 9) by rw[<-L.o,show (⟨#[9]⟩:ByteArray)=strOf [9] from rfl,af,List.replicate_succ']);have R:=ad (show t+1+th.num<=1000000 by
   have ae:=x.o;have aD:=eR b;have aU:=bN.o;rcases aL.HD with h|h
   .simp only[ax.th] at h;omega
   .simp only[ax.th] at h;subst h;simp only[ak.num];omega)
  clear bv hx bg;simp only[ax.kind,ax.name] at *;have J:=ad aK.1;by_cases dA:n3=0
  .subst dA;have j:=ad (show el.isNil=true by have ae:=J.o;simp only[ax.el,cC,Lf] at ae;cases el<;>first|rfl|simp[ak.list] at ae);have ag:=ad (show (((((((pre++(⟨#[105,102,32]⟩:ByteArray))++strOf (bR e))++(⟨#[32,123,10]⟩:ByteArray))++strOf (cA (t+1) th))++T)++(⟨#[125]⟩:ByteArray))++(⟨#[10]⟩:ByteArray))=strOf (iN t (b.list.take (k+1))) by
    rw[i.o,y.o,<-L.o];rw[show (⟨#[105,102,32]⟩:ByteArray)=strOf [105,102,32] from rfl];rw[show (⟨#[32,123,10]⟩:ByteArray)=strOf [32,123,10] from rfl];rw[show (⟨#[125]⟩:ByteArray)=strOf [125] from rfl];rw[show (⟨#[10]⟩:ByteArray)=strOf [10] from rfl];rw[af,af,af,af,af,af,af,af];simp[dt,cA,j.o])
   exact A8
  .have j:=ad (show el.isNil=false by have ae:=J.o;simp only[ax.el,cC,Lf] at ae;cases el<;>first|rfl|(simp[ak.list] at ae;omega));have I:(cA (t+1) el).length<=262144:=by have:=aG.o;simp[dt,j.o] at this;unfold cA;omega
   have U:=ad I;have ao:(strOf (cA (t+1) el)).size<=262144:=by rw[aH];exact I
   have bw:=ad (show t+1+el.num<=1000000 by
    have ae:=x.o;have aD:=eR b;have aU:=bN.o;rcases aL.HC with h|h
    .simp only[ax.el] at h;omega
    .simp only[ax.el] at h;subst h;simp only[ak.num];omega)
   have dB:0<n3:=ab;clear I;have ag:=ad (show (((((((((((pre++(⟨#[105,102,32]⟩:ByteArray))++strOf (bR e))++(⟨#[32,123,10]⟩:ByteArray))++strOf (cA (t+1) th))++T)++(⟨#[125]⟩:ByteArray))++(⟨#[32,101,108,115,101,32,123,10]⟩:ByteArray))++strOf (cA (t+1) el))++T)++(⟨#[125]⟩:ByteArray))++(⟨#[10]⟩:ByteArray))=strOf (iN t (b.list.take (k+1))) by
    rw[i.o,y.o,<-L.o];rw[show (⟨#[105,102,32]⟩:ByteArray)=strOf [105,102,32] from rfl];rw[show (⟨#[32,123,10]⟩:ByteArray)=strOf [32,123,10] from rfl];rw[show (⟨#[125]⟩:ByteArray)=strOf [125] from rfl];rw[show (⟨#[32,101,108,115,101,32,123,10]⟩:ByteArray)=strOf [32,101,108,115,101,32,123,10] from rfl];rw[show (⟨#[10]⟩:ByteArray)=strOf [10] from rfl];rw[af,af,af,af,af,af,af,af,af,af,af,af];simp[dt,cA,j.o])
   go_wp2;refine eU (λ_=>False) [(0,3),(1,3),(2,3),(3,3),(4,0),(8,3),(9,0),(10,3),(11,3),(14,3),(5,1),(6,3),(7,3),(12,2),(13,3),(15,3),(16,3),(17,3)] ?_
   iterate 2 refine pf ?_
   refine bh (v:=?_) rfl (by rfl) (λV=>?_) ?_;rotate_left
   .go_simp;exact dW
   try simp only[PU]
   refine pf ?_;refine ph ?_;refine pf ?_;refine ph ?_;refine pf ?_;refine bh (v:=?_) rfl (by rfl) (λV=>?_) ?_;rotate_left
   .go_simp;exact dW
   try simp only[PU]
   refine pf ?_;refine aO rfl (λK hK=>?_);go_simp;refine(aR.o _ _ _ _ _ _ _ (D.on aW.o (Fr.ext LL.drew)) f.o).mono ?_;rintro e aP ⟨rfl,ar⟩;refine ei hK (ar) ?_;clear hK K;refine bh (v:=?_) rfl (by rfl) (λV=>?_) ?_;rotate_left
   .go_simp;exact dW
   try simp only[PU]
   refine bh (v:=?_) rfl (by rfl) (λV=>?_) ?_;rotate_left
   .go_simp;exact dW
   try simp only[PU]
   refine aq rfl (λK hK=>?_);go_simp;rw[q.o];refine((show hg th from aL.th) (t+1) A2 n2 c2 _ R.o (aa.on (Fr.ext (Fr.aQ ar))) H.o).mono ?_;rintro e aV ⟨rfl,bU⟩;refine eL hK ?_;clear hK K;refine bh (v:=?_) rfl (by rfl) (λV=>?_) ?_;rotate_left
   .go_simp;exact dW
   try simp only[PU]
   refine bh (v:=?_) rfl (by rfl) (λV=>?_) ?_;rotate_left
   .go_simp;exact dW
   try simp only[PU]
   refine bh (v:=?_) rfl (by rfl) (λV=>?_) ?_;rotate_left
   .go_simp;exact dW
   try simp only[PU]
   refine pf ?_;refine aB ?_;have bs:=ad ((Fr.aQ ar).trans bU);obtain⟨v0,aC⟩:=Fr.rz bs.o;clear ar bU;have cw:decide ((n3:Int) > 0)=true:=by simp;omega
   go_wp2_with(fail);rw[q.o];refine((show hg el from aL.el) (t+1) ck n3 c3 _ bw.o (aK.on (Fr.ext bs.o)) U.o).mono ?_;rintro e b3 ⟨rfl,b0⟩;have a7:=ad (bs.trans b0);clear b0;go_wp2;go_roundw
   case rel=>exact⟨k+1,ab,by go_num,by rw[<-ag.o],a8.trans (z.trans a7.o)⟩
   case measure=>exact az
 | ret=>
  simp only[ax.kind,ax.name] at *;have ag:=ad (show ((pre++(⟨#[114,101,116,117,114,110,59]⟩:ByteArray))++(⟨#[10]⟩:ByteArray))=strOf (iN t (b.list.take (k+1))) by
   rw[i.o,y.o,<-L.o];rw[show (⟨#[114,101,116,117,114,110,59]⟩:ByteArray)=strOf [114,101,116,117,114,110,59] from rfl];rw[show (⟨#[10]⟩:ByteArray)=strOf [10] from rfl];rw[af,af,af];simp[dt])
  have bs:=ad (Fr.refl (λ_=>False) W);exact xw
 ):p:=h
end Ch
open Ch in
theorem wu(b:ak)(X:∀s∈b.list,vu s b.num):hg b:=by
 intro t A n c w EG hs hlen;have hl:b.list.length=n:=by rw[<-hs.1,cC,Lf]
 have hn:n<=1000000:=by have:=eR b;omega
 have Q:t<=1000000:=ab;have am:(strOf (List.replicate t 9)).size<=1000000:=by rw[aH,List.length_replicate];exact Q
 rw[cC] at hs;rw[eQ] at hlen ⊢;obtain⟨bN,bB,al⟩:=eG hl hs X;have F:=ad (show (iN t b.list).length<=262144 from hlen);have x:=ad EG;have Y:=ad (show iN t (b.list.take n)=(b.list.map (dt t)).flatten by rw[<-hl,List.take_length];rfl);clear hs X hlen hl EG Q;generalize hT:strOf (List.replicate t 9)=T at *;have L:=ad hT;clear hT;go_enter func131,ntmps131;go_wp2;go_loopw [5,6] (λsv bc wr=>∃k:Nat,k<=n/\bc=.int .i64 k/\sv=.string (strOf (iN t (b.list.take k)))/\Ext w wr) (λ_ bc _=>n - (intOf bc).toNat)
 case atStart=>exact⟨0,ab,rfl,rfl,LL⟩
 case round=>
  obtain⟨k,ai,rfl,rfl,aE⟩:=hrel;have a8:=ad aE;clear aE;have ba:(strOf (iN t (b.list.take k))).size<=262144:=by
   rw[aH];exact Ls (xH t _ k) F.o
  by_cases aw:k<n
  .obtain⟨dc,o,s,cs,rfl,O,bk,dJ,bi,Z⟩:=(bB.on (Fr.ext a8.o)).gZ nB aw;have aX:dc<wr.heap.size:=O;have i:=ad (yt (t:=t) bk);have aL:=ad (al.o s (Le bk));have m:(dt t s).length<=262144:=by
    have ae:=xH t b.list (k+1);rw[i.o] at ae;have aD:=F.o;simp at ae;omega
   have aG:=ad m;obtain⟨eo,en,es,EA,em,ec,rs,cn,cU,rc,cy,n1,c1,A2,n2,c2,ck,n3,c3,rfl,E⟩:=lC dJ;exact vE
  .obtain rfl:k=n:=ab;go_wp2;go_ret;exact⟨ret_str (by rw[Y.o]),a8.o⟩
end Go.Proofs.YtflecliffjbleaaGreat
