/- Part 11 of the proof (PrG PrH), without conditions of its own. -/
import Derived.Test.YtjhgbdckgkppnaaGreatQ10
namespace Go.Proofs.YtjhgbdckgkppnaaGreat
open Go.RowKit Go.Proofs.Tryz
set_option maxRecDepth 1000000
set_option maxHeartbeats 25600000
set_option linter.unusedVariables false
variable{cs:List Value}{P:Nat→Prop}{p:Prop}{w:World}{s:ay}
def ay.kind:ay→Int
 | .set v _ _=>if v then 1 else 2
 | .call g _ _=>if g then 4 else 3
 | .lock u _=>if u then 6 else 5
 | .ite ..=>7
 | .fj ..=>8
 | .ret=>9
def ay.name:ay→ByteArray
 | .set _ n _=>n
 | .call _ n _=>n
 | _=>⟨#[]⟩
def ay.expr:ay→Option VE
 | .set _ _ e=>some e
 | .ite e _ _=>some e
 | .fj e _=>some e
 | _=>none
def ay.ref:ay→Option d2
 | .lock _ r=>some r
 | _=>none
def ay.args:ay→List cQ
 | .call _ _ aO=>aO
 | _=>[]
def ay.th:ay→aj
 | .ite _ th _=>th
 | .fj _ th=>th
 | _=>.nil
def ay.el:ay→aj
 | .ite _ _ el=>el
 | _=>.nil
def nT:Option d2→D
 | none=>ff
 | some r=>jB r
theorem pj(s:ay):aW s=fL s.kind s.name (mR s.expr) (nT s.ref) (s.args.map fQ) (cL s.th) (cL s.el):=by
 cases s<;>rfl
theorem lW(s:ay):(aW s).sz=11:=by
 rw[pj];have ac:(mR s.expr).sz=4:=by
  cases s.expr with
  | none=>rfl
  | some x=>exact cS x
 have J:(nT s.ref).sz=2:=by cases s.ref<;>rfl
 unfold fL;simp only[D.sz,D.vM,ac,J]
theorem nU{x:Option VE}(h:(mR x).rep w P cs):∃o n s A m c,cs=[.int .i64 o,.int .i64 n,.string s,.slice A m c]:=by
 cases x with
 | none=>obtain⟨A,c,rfl⟩:=eA.1 h;exact⟨_,_,_,_,_,_,rfl⟩
 | some x=>obtain⟨A,n,c,rfl,_⟩:=aV.1 h;exact⟨_,_,_,_,_,_,rfl⟩
theorem q2{x:Option d2}(h:(nT x).rep w P cs):∃s A m c,cs=[.string s,.slice A m c]:=by
 cases x with
 | none=>
  unfold nT ff at h;rw[bw,ca] at h;obtain⟨z,rfl,hx⟩:=h;obtain⟨A,n,c,aR,rfl,_,_,bv⟩:=aJ.1 hx;rw[aM] at bv;subst bv
  exact⟨_,_,_,_,rfl⟩
 | some x=>obtain⟨A,n,c,rfl,_⟩:=iz.1 h;exact⟨_,_,_,_,rfl⟩
structure EL(w:World)(P:Nat→Prop)(s:ay)(eo en:Int)(es:ByteArray)(EA:GR)(em ec:Nat)(rs:ByteArray)(bH:GR)(bC rc:Nat)(cC:GR)(n1:Nat)(A2:GR)(bl:Nat)(cl:GR)(cn:Nat):Prop where
 expr:(mR s.expr).rep w P [.int .i64 eo,.int .i64 en,.string es,.slice EA em ec]
 ref:(nT s.ref).rep w P [.string rs,.slice bH bC rc]
 args:Sl w P cC n1 (s.args.map fQ)
 th:Sl w P A2 bl (cL s.th)
 el:Sl w P cl cn (cL s.el)
theorem kd(h:(aW s).rep w P cs):∃eo en es EA em ec rs bH bC rc cC n1 c1 A2 bl c2 cl cn c3,
  cs=[.int .i64 s.kind,.string s.name,.int .i64 eo,.int .i64 en,.string es,.slice EA em ec,.string rs,.slice bH bC rc,.slice cC n1 c1,.slice A2 bl c2,.slice cl cn c3]∧
  EL w P s eo en es EA em ec rs bH bC rc cC n1 A2 bl cl cn:=by
 rw[pj] at h;unfold fL at h;rw[bw,a9] at h;obtain⟨y,rfl,h⟩:=h;rw[ca] at h;obtain⟨bu,rfl,h⟩:=h;obtain⟨E,bA,rfl,he,h⟩:=dJ.1 h;obtain⟨aP,I,rfl,aX,h⟩:=dJ.1 h;obtain⟨cC,n1,c1,a,rfl,_,ac,h⟩:=aJ.1 h;obtain⟨A2,bl,c2,b,rfl,_,J,h⟩:=aJ.1 h;obtain⟨cl,cn,c3,d,rfl,_,aS,h⟩:=aJ.1 h;rw[aM] at h;subst h;obtain⟨o,n,s,A,m,c,rfl⟩:=nU he;obtain⟨Q,az,b3,aG,rfl⟩:=q2 aX
 iterate 19 apply Exists.intro
 exact⟨rfl,he,aX,ac,J,aS⟩
def l6:aj→Prop
 | .nil=>True
 | .set _ _ e rest=>(∃N d,e.src N d)∧l6 rest
 | .call _ _ aO rest=>((∀a∈aO,Cv a)∧aO.length≤1000)∧l6 rest
 | .lock _ r rest=>Bn r∧l6 rest
 | .ite e th el rest=>(∃N d,e.src N d)∧l6 th∧l6 el∧l6 rest
 | .fj e th rest=>(∃N d,e.src N d)∧l6 th∧l6 rest
 | .ret rest=>l6 rest
def gq(b:aj):Prop:=∀(t:Nat) (A:GR) (n c:Nat) (w:World),t+b.num≤1000000→Sl w (au w) A n (cL b)→(cm t b).length≤262144→
 Calls prog 135 #[.slice A n c,.string (strOf (List.replicate t 9))] w fun e ab=>e=.returned (.string (strOf (cm t b)))∧Ext w ab
structure r7(s:ay)(N:Nat):Prop where
 expr:∀e,s.expr=some e→∃N d,e.src N d
 ref:∀r,s.ref=some r→Bn r
 args:∀a∈s.args,Cv a
 ir:s.args.length≤1000
 th:gq s.th
 el:gq s.el
 Eg:s.th.num<N∨s.th=.nil
 Ef:s.el.num<N∨s.el=.nil
theorem gg{α:Type}{x:α}(h:(none:Option α)=some x):p:=by cases h
theorem FQ(f:∀b:aj,(∀s∈b.list,r7 s b.num)→gq b):∀b:aj,l6 b→gq b∧∀s∈b.list,r7 s b.num:=by
 have mono:∀{s:ay} {n m:Nat},n≤m→r7 s n→r7 s m:=fun h k=>⟨k.expr,k.ref,k.args,k.ir,k.th,k.el,k.Eg.imp (fun x=>Gc x h) id,k.Ef.imp (fun x=>Gc x h) id⟩
 have c:gq .nil:=f .nil fun s hs=>by simp[aj.list] at hs
 have fin:∀b:aj,(∀s∈b.list,r7 s b.num)→gq b∧∀s∈b.list,r7 s b.num:=fun b h=>⟨f b h,h⟩
 intro b
 induction b with
 | nil=>exact fun _=>fin _ fun s hs=>by simp[aj.list] at hs
 | set v n e rest aa=>
  intro h;refine fin _ fun s hs=>?_;rcases Gt.1 hs with rfl|hs
  ·exact⟨fun l he=>(by cases he;exact h.1),fun r aX=>gg aX,fun a aV=>(nomatch aV),by simp[ay.args],c,c,.inr rfl,.inr rfl⟩
  ·exact mono (by simp[aj.num]) ((aa h.2).2 s hs)
 | call g n aO rest aa=>
  intro h;refine fin _ fun s hs=>?_;rcases Gt.1 hs with rfl|hs
  ·exact⟨fun l he=>gg he,fun r aX=>gg aX,h.1.1,h.1.2,c,c,.inr rfl,.inr rfl⟩
  ·exact mono (by simp[aj.num]) ((aa h.2).2 s hs)
 | lock u r rest aa=>
  intro h;refine fin _ fun s hs=>?_;rcases Gt.1 hs with rfl|hs
  ·exact⟨fun l he=>gg he,fun d aX=>(by cases aX;exact h.1),fun a aV=>(nomatch aV),by simp[ay.args],c,c,.inr rfl,.inr rfl⟩
  ·exact mono (by simp[aj.num]) ((aa h.2).2 s hs)
 | ite e th el rest j o aa=>
  intro h;refine fin _ fun s hs=>?_;rcases Gt.1 hs with rfl|hs
  ·exact⟨fun l he=>(by cases he;exact h.1),fun r aX=>gg aX,fun a aV=>(nomatch aV),by simp[ay.args],(j h.2.1).1,(o h.2.2.1).1,.inl (by simp[ay.th,aj.num];omega),.inl (by simp[ay.el,aj.num];omega)⟩
  ·exact mono (by simp[aj.num];omega) ((aa h.2.2.2).2 s hs)
 | fj e th rest j aa=>
  intro h;refine fin _ fun s hs=>?_;rcases Gt.1 hs with rfl|hs
  ·exact⟨fun l he=>(by cases he;exact h.1),fun r aX=>gg aX,fun a aV=>(nomatch aV),by simp[ay.args],(j h.2.1).1,c,.inl (by simp[ay.th,aj.num];omega),.inr rfl⟩
  ·exact mono (by simp[aj.num];omega) ((aa h.2.2).2 s hs)
 | ret rest aa=>
  intro h;refine fin _ fun s hs=>?_;rcases Gt.1 hs with rfl|hs
  ·exact⟨fun l he=>gg he,fun r aX=>gg aX,fun a aV=>(nomatch aV),by simp[ay.args],c,c,.inr rfl,.inr rfl⟩
  ·exact mono (by simp[aj.num]) ((aa h).2 s hs)
def hO(t:Nat)(l:List ay):List UInt8:=(l.map (dc t)).flatten
theorem u5{t:Nat}{l:List ay}{k:Nat}(h:l[k]?=some s):hO t (l.take (k+1))=hO t (l.take k)++dc t s:=by
 unfold hO;rw[List.take_add_one,h,Gi,List.flatten_append];simp
theorem ur(t:Nat)(l:List ay)(k:Nat):(hO t (l.take k)).length≤(hO t l).length:=by
 conv=>rhs;rw[←List.take_append_drop k l]
 unfold hO;rw[Gi,List.flatten_append,Gd];omega
theorem ep:∀b:aj,b.list.length≤b.num
 | .nil=>Gb _
 | .set v n e rest=>by have:=ep rest;simp[aj.list,aj.num];omega
 | .call g n aO rest=>by have:=ep rest;simp[aj.list,aj.num];omega
 | .lock u r rest=>by have:=ep rest;simp[aj.list,aj.num];omega
 | .ite e th el rest=>by have:=ep rest;simp[aj.list,aj.num];omega
 | .fj e th rest=>by have:=ep rest;simp[aj.list,aj.num];omega
 | .ret rest=>by have:=ep rest;simp[aj.list,aj.num];omega
namespace yY
theorem wQ(h:p:=by
 exact yf
 ):p:=h
theorem xo(h:p:=by
 have a4:=ae aT;have z:=ae F;have be:=ae (D.on S.expr (Fr.ext F));have U:=ae (D.on S.ref (Fr.ext F));have G:=ae (S.args.on (Fr.ext F));have ai:=ae (S.th.on (Fr.ext F));have aw:=ae (S.el.on (Fr.ext F));obtain⟨a0,al,af⟩:=aT.two;clear bg F aT a6 ca aP cx dd de dm dn ee ef dj S aN;have am:(strOf (hO t (b.list.take k))++T).size≤2000000:=by rw[ByteArray.size_append];omega
 generalize L:strOf (hO t (b.list.take k))++T=pre at *;have H:=ae L.symm;clear L bv
 cases s with
 | set v nm e=>
  obtain⟨N,d,hx⟩:=aV.expr e rfl;have aU:=ae (iJ N d e hx);have ba:(bL e).length≤262144:=by have:=aK.o;simp[dc] at this;omega
  have f:=ae ba;have c6:(strOf (bL e)).size≤262144:=by rw[aI];exact ba
  have m:nm.size≤262144:=by have:=aK.o;simp[dc] at this;have J:nm.size=nm.data.toList.length:=rfl;simp at J;omega
  clear ba hx;simp only[ay.kind,ay.name] at *;cases v
  ·simp only[GL,if_false] at *;have aL:=ae (show (((((pre++nm)++(⟨#[32,61,32]⟩:ByteArray))++strOf (bL e))++(⟨#[59]⟩:ByteArray))++(⟨#[10]⟩:ByteArray))=strOf (hO t (b.list.take (k+1))) by
    rw[i.o,H.o,←P.o];rw[show (⟨#[32,61,32]⟩:ByteArray)=strOf [32,61,32] from rfl];rw[show (⟨#[59]⟩:ByteArray)=strOf [59] from rfl];rw[show (⟨#[10]⟩:ByteArray)=strOf [10] from rfl];conv=>lhs;rw[←cM nm]
    rw[ah,ah,ah,ah,ah,ah];simp[dc])
   go_wp2;refine eh (fun _=>False) [(0,3),(1,3),(2,0),(3,3),(4,3),(5,3),(6,0),(7,1),(8,3),(9,3),(10,3)] ?_
   iterate 2 refine pf ?_
   refine ph ?_;refine bj (v:=?_) rfl (by rfl) (fun V=>?_) ?_;rotate_left
   ·go_simp;exact dL
   try simp only[PU]
   refine bj (v:=?_) rfl (by rfl) (fun V=>?_) ?_;rotate_left
   ·go_simp;exact dL
   try simp only[PU]
   refine pf ?_;refine ph ?_;refine aA rfl (fun K hK=>?_);go_simp;refine(aU.o _ _ _ _ _ _ _ (D.on be.o (Fr.ext GN.drew)) f.o).mono ?_;rintro e aH ⟨rfl,ar⟩;refine hK _ _ (ar) ?_;clear hK K;exact wP
  ·simp only[if_true] at *;have aL:=ae (show ((((((pre++(⟨#[118,97,114,32]⟩:ByteArray))++nm)++(⟨#[32,61,32]⟩:ByteArray))++strOf (bL e))++(⟨#[59]⟩:ByteArray))++(⟨#[10]⟩:ByteArray))=strOf (hO t (b.list.take (k+1))) by
    rw[i.o,H.o,←P.o];rw[show (⟨#[118,97,114,32]⟩:ByteArray)=strOf [118,97,114,32] from rfl];rw[show (⟨#[32,61,32]⟩:ByteArray)=strOf [32,61,32] from rfl];rw[show (⟨#[59]⟩:ByteArray)=strOf [59] from rfl];rw[show (⟨#[10]⟩:ByteArray)=strOf [10] from rfl];conv=>lhs;rw[←cM nm]
    rw[ah,ah,ah,ah,ah,ah,ah];simp[dc])
   go_wp2;refine eh (fun _=>False) [(0,3),(1,3),(2,3),(3,0),(4,3),(5,3),(6,3),(7,0),(8,1),(9,3),(10,3),(11,3)] ?_;refine pf ?_;refine bj (v:=?_) rfl (by rfl) (fun V=>?_) ?_;rotate_left
   ·go_simp;exact dL
   try simp only[PU]
   refine pf ?_;refine ph ?_;refine bj (v:=?_) rfl (by rfl) (fun V=>?_) ?_;rotate_left
   ·go_simp;exact dL
   try simp only[PU]
   refine bj (v:=?_) rfl (by rfl) (fun V=>?_) ?_;rotate_left
   ·go_simp;exact dL
   try simp only[PU]
   refine pf ?_;refine ph ?_;refine aA rfl (fun K hK=>?_);go_simp;refine(aU.o _ _ _ _ _ _ _ (D.on be.o (Fr.ext GN.drew)) f.o).mono ?_
   exact xN
 | call g nm aO=>
  have aU:=ae (p2 aO aV.args);have ba:(gI aO).length≤262144:=by have:=aK.o;simp[dc] at this;omega
  have f:=ae ba;have cN:n1≤1000:=by have ac:=G.1;have J:=aV.ir;simp[ay.args] at ac J;omega
  have M:=ae cN;have c6:(strOf (gI aO)).size≤262144:=by rw[aI];exact ba
  have m:nm.size≤262144:=by have:=aK.o;simp[dc] at this;have J:nm.size=nm.data.toList.length:=rfl;simp at J;omega
  clear ba cN;simp only[ay.kind,ay.name] at *;cases g
  ·simp only[GL,if_false] at *;have aL:=ae (show ((((pre++nm)++strOf (gI aO))++(⟨#[59]⟩:ByteArray))++(⟨#[10]⟩:ByteArray))=strOf (hO t (b.list.take (k+1))) by
    rw[i.o,H.o,←P.o];rw[show (⟨#[59]⟩:ByteArray)=strOf [59] from rfl];rw[show (⟨#[10]⟩:ByteArray)=strOf [10] from rfl];conv=>lhs;rw[←cM nm]
    rw[ah,ah,ah,ah,ah];simp[dc])
   go_wp2;refine eh (fun _=>False) [(0,3),(1,3),(2,0),(3,3),(4,3),(5,0),(6,1),(7,3),(8,3),(9,3)] ?_
   iterate 2 refine pf ?_
   exact ye
  ·simp only[if_true] at *;have aL:=ae (show (((((pre++(⟨#[103,111,32]⟩:ByteArray))++nm)++strOf (gI aO))++(⟨#[59]⟩:ByteArray))++(⟨#[10]⟩:ByteArray))=strOf (hO t (b.list.take (k+1))) by
    rw[i.o,H.o,←P.o];rw[show (⟨#[103,111,32]⟩:ByteArray)=strOf [103,111,32] from rfl];rw[show (⟨#[59]⟩:ByteArray)=strOf [59] from rfl];rw[show (⟨#[10]⟩:ByteArray)=strOf [10] from rfl];conv=>lhs;rw[←cM nm]
    rw[ah,ah,ah,ah,ah,ah];simp[dc])
   go_wp2;refine eh (fun _=>False) [(0,3),(1,3),(2,3),(3,0),(4,3),(5,3),(6,0),(7,1),(8,3),(9,3),(10,3)] ?_;refine pf ?_;refine bj (v:=?_) rfl (by rfl) (fun V=>?_) ?_;rotate_left
   ·go_simp;exact dL
   try simp only[PU]
   refine pf ?_
   exact ye
 | lock u r=>
  have aU:=ae (jI r (aV.ref r rfl));have ba:(fb r).length≤262144:=by have:=aK.o;simp[dc] at this;omega
  have f:=ae ba;have c6:(strOf (fb r)).size≤262144:=by rw[aI];exact ba
  clear ba;simp only[ay.kind,ay.name] at *;cases u
  ·simp only[GL,if_false] at *;have aL:=ae (show ((((pre++(⟨#[108,111,99,107,32]⟩:ByteArray))++strOf (fb r))++(⟨#[59]⟩:ByteArray))++(⟨#[10]⟩:ByteArray))=strOf (hO t (b.list.take (k+1))) by
    rw[i.o,H.o,←P.o];rw[show (⟨#[108,111,99,107,32]⟩:ByteArray)=strOf [108,111,99,107,32] from rfl];rw[show (⟨#[59]⟩:ByteArray)=strOf [59] from rfl];rw[show (⟨#[10]⟩:ByteArray)=strOf [10] from rfl];rw[ah,ah,ah,ah,ah];simp[dc])
   exact x2
  ·simp only[if_true] at *;have aL:=ae (show ((((pre++(⟨#[117,110,108,111,99,107,32]⟩:ByteArray))++strOf (fb r))++(⟨#[59]⟩:ByteArray))++(⟨#[10]⟩:ByteArray))=strOf (hO t (b.list.take (k+1))) by
    rw[i.o,H.o,←P.o];rw[show (⟨#[117,110,108,111,99,107,32]⟩:ByteArray)=strOf [117,110,108,111,99,107,32] from rfl];rw[show (⟨#[59]⟩:ByteArray)=strOf [59] from rfl];rw[show (⟨#[10]⟩:ByteArray)=strOf [10] from rfl];rw[ah,ah,ah,ah,ah];simp[dc])
   exact x2
 | fj e th=>
  obtain⟨N,d,hx⟩:=aV.expr e rfl;have aU:=ae (iJ N d e hx);have ba:(bL e).length≤262144:=by have:=aK.o;simp[dc] at this;omega
  have bG:(cm (t+1) th).length≤262144:=by have:=aK.o;simp[dc] at this;unfold cm;omega
  have f:=ae ba;have R:=ae bG;have c6:(strOf (bL e)).size≤262144:=by rw[aI];exact ba
  have m:(strOf (cm (t+1) th)).size≤262144:=by rw[aI];exact bG
  have q:=ae (show T++⟨#[9]⟩=strOf (List.replicate (t+1) 9) by rw[←P.o,show (⟨#[9]⟩:ByteArray)=strOf [9] from rfl,ah,List.replicate_succ']);have B:=ae (show t+1+th.num≤1000000 by
   have ac:=X.o;have J:=ep b;have aS:=b0.o;rcases aV.Eg with h|h
   ·simp only[ay.th] at h;omega
   ·simp only[ay.th] at h;subst h;simp only[aj.num];omega)
  clear ba hx bG;simp only[ay.kind,ay.name] at *;obtain rfl:cn=0:=by have:=aw.1;simpa [ay.el,cL] using this.symm
  have aL:=ae (show (((((((pre++(⟨#[119,104,105,108,101,32]⟩:ByteArray))++strOf (bL e))++(⟨#[32,123,10]⟩:ByteArray))++strOf (cm (t+1) th))++T)++(⟨#[125]⟩:ByteArray))++(⟨#[10]⟩:ByteArray))=strOf (hO t (b.list.take (k+1))) by
   rw[i.o,H.o,←P.o];rw[show (⟨#[119,104,105,108,101,32]⟩:ByteArray)=strOf [119,104,105,108,101,32] from rfl];rw[show (⟨#[32,123,10]⟩:ByteArray)=strOf [32,123,10] from rfl];rw[show (⟨#[125]⟩:ByteArray)=strOf [125] from rfl];rw[show (⟨#[10]⟩:ByteArray)=strOf [10] from rfl];rw[ah,ah,ah,ah,ah,ah,ah,ah];simp[dc,cm])
  exact xM
 | ite e th el=>
  obtain⟨N,d,hx⟩:=aV.expr e rfl;have aU:=ae (iJ N d e hx);have ba:(bL e).length≤262144:=by have:=aK.o;simp[dc] at this;omega
  have bG:(cm (t+1) th).length≤262144:=by have:=aK.o;simp[dc] at this;unfold cm;omega
  have f:=ae ba;have R:=ae bG;have c6:(strOf (bL e)).size≤262144:=by rw[aI];exact ba
  have m:(strOf (cm (t+1) th)).size≤262144:=by rw[aI];exact bG
  have q:=ae (show T++⟨#[9]⟩=strOf (List.replicate (t+1) 9) by rw[←P.o,show (⟨#[9]⟩:ByteArray)=strOf [9] from rfl,ah,List.replicate_succ']);have B:=ae (show t+1+th.num≤1000000 by
   have ac:=X.o;have J:=ep b;have aS:=b0.o;rcases aV.Eg with h|h
   ·simp only[ay.th] at h;omega
   ·simp only[ay.th] at h;subst h;simp only[aj.num];omega)
  clear ba hx bG;simp only[ay.kind,ay.name] at *;have x:=ae aw.1;by_cases dM:cn=0
  ·subst dM;have a:=ae (show el.isNil=true by have ac:=x.o;simp only[ay.el,cq,Gf] at ac;cases el<;>first|rfl|simp[aj.list] at ac);have aL:=ae (show (((((((pre++(⟨#[105,102,32]⟩:ByteArray))++strOf (bL e))++(⟨#[32,123,10]⟩:ByteArray))++strOf (cm (t+1) th))++T)++(⟨#[125]⟩:ByteArray))++(⟨#[10]⟩:ByteArray))=strOf (hO t (b.list.take (k+1))) by
    rw[i.o,H.o,←P.o];rw[show (⟨#[105,102,32]⟩:ByteArray)=strOf [105,102,32] from rfl];rw[show (⟨#[32,123,10]⟩:ByteArray)=strOf [32,123,10] from rfl];rw[show (⟨#[125]⟩:ByteArray)=strOf [125] from rfl];rw[show (⟨#[10]⟩:ByteArray)=strOf [10] from rfl];rw[ah,ah,ah,ah,ah,ah,ah,ah];simp[dc,cm,a.o])
   exact xM
  ·have a:=ae (show el.isNil=false by have ac:=x.o;simp only[ay.el,cq,Gf] at ac;cases el<;>first|rfl|(simp[aj.list] at ac;omega));have bR:(cm (t+1) el).length≤262144:=by have:=aK.o;simp[dc,a.o] at this;unfold cm;omega
   have ak:=ae bR;have ab:(strOf (cm (t+1) el)).size≤262144:=by rw[aI];exact bR
   have bm:=ae (show t+1+el.num≤1000000 by
    have ac:=X.o;have J:=ep b;have aS:=b0.o;rcases aV.Ef with h|h
    ·simp only[ay.el] at h;omega
    ·simp only[ay.el] at h;subst h;simp only[aj.num];omega)
   have Y:0<cn:=ad;clear bR;have aL:=ae (show (((((((((((pre++(⟨#[105,102,32]⟩:ByteArray))++strOf (bL e))++(⟨#[32,123,10]⟩:ByteArray))++strOf (cm (t+1) th))++T)++(⟨#[125]⟩:ByteArray))++(⟨#[32,101,108,115,101,32,123,10]⟩:ByteArray))++strOf (cm (t+1) el))++T)++(⟨#[125]⟩:ByteArray))++(⟨#[10]⟩:ByteArray))=strOf (hO t (b.list.take (k+1))) by
    rw[i.o,H.o,←P.o];rw[show (⟨#[105,102,32]⟩:ByteArray)=strOf [105,102,32] from rfl];rw[show (⟨#[32,123,10]⟩:ByteArray)=strOf [32,123,10] from rfl];rw[show (⟨#[125]⟩:ByteArray)=strOf [125] from rfl];rw[show (⟨#[32,101,108,115,101,32,123,10]⟩:ByteArray)=strOf [32,101,108,115,101,32,123,10] from rfl];rw[show (⟨#[10]⟩:ByteArray)=strOf [10] from rfl];rw[ah,ah,ah,ah,ah,ah,ah,ah,ah,ah,ah,ah];simp[dc,cm,a.o])
   go_wp2;refine eh (fun _=>False) [(0,3),(1,3),(2,3),(3,3),(4,0),(8,3),(9,0),(10,3),(11,3),(14,3),(5,1),(6,3),(7,3),(12,2),(13,3),(15,3),(16,3),(17,3)] ?_
   iterate 2 refine pf ?_
   refine bj (v:=?_) rfl (by rfl) (fun V=>?_) ?_;rotate_left
   ·go_simp;exact dL
   try simp only[PU]
   refine pf ?_;refine ph ?_;refine pf ?_;refine ph ?_;refine pf ?_;refine bj (v:=?_) rfl (by rfl) (fun V=>?_) ?_;rotate_left
   ·go_simp;exact dL
   try simp only[PU]
   refine pf ?_;refine aA rfl (fun K hK=>?_);go_simp;refine(aU.o _ _ _ _ _ _ _ (D.on be.o (Fr.ext GN.drew)) f.o).mono ?_;rintro e aH ⟨rfl,ar⟩;refine hK _ _ (ar) ?_;clear hK K
   try simp only[PU]
   refine bj (v:=?_) rfl (by rfl) (fun V=>?_) ?_;rotate_left
   ·go_simp;exact dL
   try simp only[PU]
   refine bj (v:=?_) rfl (by rfl) (fun V=>?_) ?_;rotate_left
   ·go_simp;exact dL
   try simp only[PU]
   refine ax rfl (fun K hK=>?_);go_simp;rw[q.o];refine((show gq th from aV.th) (t+1) A2 bl c2 _ B.o (ai.on (Fr.ext (Fr.aE ar))) R.o).mono ?_;rintro e aQ ⟨rfl,bE⟩;refine hK _ _ ?_;clear hK K
   try simp only[PU]
   refine bj (v:=?_) rfl (by rfl) (fun V=>?_) ?_;rotate_left
   ·go_simp;exact dL
   try simp only[PU]
   refine bj (v:=?_) rfl (by rfl) (fun V=>?_) ?_;rotate_left
   ·go_simp;exact dL
   try simp only[PU]
   refine bj (v:=?_) rfl (by rfl) (fun V=>?_) ?_;rotate_left
   ·go_simp;exact dL
   try simp only[PU]
   refine pf ?_;refine aD ?_;have bp:=ae ((Fr.aE ar).trans bE);obtain⟨v0,an⟩:=Fr.oK bp.o;clear ar bE;have cT:decide ((cn:Int) > 0)=true:=by simp;omega
   go_wp2_with (fail);rw[q.o];refine((show gq el from aV.el) (t+1) cl cn c3 _ bm.o (aw.on (Fr.ext bp.o)) ak.o).mono ?_;rintro e bJ ⟨rfl,bW⟩;have aW:=ae (bp.trans bW);clear bW;go_wp2;go_roundw
   case rel=>exact⟨k+1,ad,by go_num,by rw[←aL.o],bh.trans (z.trans aW.o)⟩
   case measure=>simp[intOf];omega
 | ret=>
  simp only[ay.kind,ay.name] at *;have aL:=ae (show ((pre++(⟨#[114,101,116,117,114,110,59]⟩:ByteArray))++(⟨#[10]⟩:ByteArray))=strOf (hO t (b.list.take (k+1))) by
   rw[i.o,H.o,←P.o];rw[show (⟨#[114,101,116,117,114,110,59]⟩:ByteArray)=strOf [114,101,116,117,114,110,59] from rfl];rw[show (⟨#[10]⟩:ByteArray)=strOf [10] from rfl];rw[ah,ah,ah];simp[dc])
  have bp:=ae (Fr.refl (fun _=>False) W);exact uc
 ):p:=h
theorem wO(h:p:=by
 have S:=ae Q;clear Z cF Q b8 j a1 O;exact xn
 ):p:=h
end yY
open yY in
theorem s7(b:aj)(C:∀s∈b.list,r7 s b.num):gq b:=by
 intro t A n c w bi hs hlen;have hl:b.list.length=n:=by rw[←hs.1,cq,Gf]
 have hn:n≤1000000:=by have:=ep b;omega
 have y:t≤1000000:=ad;have aa:(strOf (List.replicate t 9)).size≤1000000:=by rw[aI,List.length_replicate];exact y
 rw[cq] at hs;rw[ek] at hlen ⊢;have b0:=ae hl;have a8:=ae hs;have aB:=ae C;have l:=ae (show (hO t b.list).length≤262144 from hlen);have X:=ae bi;have I:=ae (show hO t (b.list.take n)=(b.list.map (dc t)).flatten by rw[←hl,List.take_length];rfl);clear hs C hlen hl bi y;generalize aR:strOf (List.replicate t 9)=T at *;have P:=ae aR;clear aR;go_enter func135,ntmps135;go_wp2;go_loopw [5,6] (fun sv E wr=>∃k:Nat,k≤n∧E=.int .i64 k∧sv=.string (strOf (hO t (b.list.take k)))∧Ext w wr) (fun _ E _=>n - (intOf E).toNat)
 case atStart=>exact⟨0,ad,rfl,rfl,GN⟩
 case round=>
  obtain⟨k,ap,rfl,rfl,av⟩:=hrel;have bh:=ae av;clear av;have bv:(strOf (hO t (b.list.take k))).size≤262144:=by
   rw[aI];exact Gu (ur t _ k) l.o
  by_cases ao:k<n
  ·obtain⟨bb,o,s,cs,rfl,O,b8,cF,a1,Z⟩:=(a8.on (Fr.ext bh.o)).fJ lW ao;have aN:bb<wr.heap.size:=O;have i:=ae (u5 (t:=t) b8);have aV:=ae (aB.o s (Ge b8));have j:(dc t s).length≤262144:=by
    have ac:=ur t b.list (k+1);rw[i.o] at ac;have J:=l.o;simp at ac;omega
   have aK:=ae j;obtain⟨eo,en,es,EA,em,ec,rs,bH,bC,rc,cC,n1,c1,A2,bl,c2,cl,cn,c3,rfl,Q⟩:=kd cF;exact wN
  ·obtain rfl:k=n:=ad;go_wp2;go_ret;exact⟨ret_str (by rw[I.o]),bh.o⟩
end Go.Proofs.YtjhgbdckgkppnaaGreat
