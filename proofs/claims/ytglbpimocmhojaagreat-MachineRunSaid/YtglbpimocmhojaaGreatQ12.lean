/- Part 12 of the proof. No condition of its own. -/
import Derived.Test.YtglbpimocmhojaaGreatQ11
namespace Go.Proofs.YtglbpimocmhojaaGreat
open Go.RowKit Go.Proofs.Tryz
set_option maxRecDepth 1000000
set_option maxHeartbeats 25600000
set_option linter.unusedVariables false
variable{cs:List Value}{P:Nat->Prop}{p:Prop}{w:World}
inductive aA where
 | set (v:Bool) (n:ByteArray) (e:VE)
 | call (g:Bool) (n:ByteArray) (a1:List dn)
 | lock (u:Bool) (r:eO)
 | ite (e:VE) (th el:an)
 | gv (e:VE) (th:an)
 | ret
def an.list:an->List aA
 | .nil=>[]
 | .set v n e rest=>.set v n e::rest.list
 | .call g n a1 rest=>.call g n a1::rest.list
 | .lock u r rest=>.lock u r::rest.list
 | .ite e th el rest=>.ite e th el::rest.list
 | .gv e th rest=>.gv e th::rest.list
 | .ret rest=>.ret::rest.list
def bg:aA->D
 | .set v n e=>gE (if v then 1 else 2) n (bk e) fV [] [] []
 | .call g n a1=>gE (if g then 4 else 3) n jL fV (a1.map gI) [] []
 | .lock u r=>gE (if u then 6 else 5) ⟨#[]⟩ jL (kx r) [] [] []
 | .ite e th el=>gE 7 ⟨#[]⟩ (bk e) fV [] (c4 th) (c4 el)
 | .gv e th=>gE 8 ⟨#[]⟩ (bk e) fV [] (c4 th) []
 | .ret=>gE 9 ⟨#[]⟩ jL fV [] [] []
theorem cF:∀b:an,c4 b=b.list.map bg
 | .nil=>rfl
 | .set v n e rest=>by simp only[c4,an.list,KJ,bg,cF rest]
 | .call g n a1 rest=>by simp only[c4,an.list,KJ,bg,cF rest]
 | .lock u r rest=>by simp only[c4,an.list,KJ,bg,cF rest]
 | .ite e th el rest=>by simp only[c4,an.list,KJ,bg,cF rest]
 | .gv e th rest=>by simp only[c4,an.list,KJ,bg,cF rest]
 | .ret rest=>by simp only[c4,an.list,KJ,bg,cF rest]
def du(t:Nat):aA->List UInt8
 | .set v n e=>List.replicate t 9++((if v then [118,97,114,32] else [])++(n.data.toList++([32,61,32]++(bW e++[59,10]))))
 | .call g n a1=>List.replicate t 9++((if g then [103,111,32] else [])++(n.data.toList++(hL a1++[59,10])))
 | .lock u r=>List.replicate t 9++((if u then [117,110,108,111,99,107,32] else [108,111,99,107,32])++(fT r++[59,10]))
 | .ite e th el=>List.replicate t 9++([105,102,32]++(bW e++([32,123,10]++(aU (aW (t+1) th)++(List.replicate t 9++([125] ++
   ((if el.isNil then [] else [32,101,108,115,101,32,123,10]++(aU (aW (t+1) el)++(List.replicate t 9++[125])))++[10])))))))
 | .gv e th=>List.replicate t 9++([119,104,105,108,101,32]++(bW e++([32,123,10]++(aU (aW (t+1) th)++(List.replicate t 9++[125,10])))))
 | .ret=>List.replicate t 9++[114,101,116,117,114,110,59,10]
def cD(t:Nat)(b:an):List UInt8:=aU (aW t b)
theorem fG(t:Nat):aU (fy t)=List.replicate t 9:=by
 induction t with
 | zero=>rfl
 | succ t ao=>unfold fy at *;rw[List.replicate_succ,a5,ao];rfl
theorem rb:aU []=[]:=rfl
theorem eT(t:Nat):∀b:an,cD t b=(b.list.map (du t)).flatten
 | .nil=>rfl
 | .set v n e rest=>by
  have ao:=eT t rest;unfold cD at *;simp only[aW,an.list,KJ,List.flatten_cons,<-ao,du,bf,a5,fG,bW]
  cases v<;>simp[Atom.bytes,kw,aU]
 | .call g n a1 rest=>by
  have ao:=eT t rest;unfold cD at *;simp only[aW,an.list,KJ,List.flatten_cons,<-ao,du,bf,a5,fG,hL]
  cases g<;>simp[Atom.bytes,kw,aU]
 | .lock u r rest=>by
  have ao:=eT t rest;unfold cD at *;simp only[aW,an.list,KJ,List.flatten_cons,<-ao,du,bf,a5,fG,fT]
  cases u<;>simp[Atom.bytes,kw,aU]
 | .ite e th el rest=>by
  have ao:=eT t rest;unfold cD at *;simp only[aW,an.list,KJ,List.flatten_cons,<-ao,du,bf,a5,fG,bW];cases hn:el.isNil
  .simp only[Lj,if_false,bf,a5,fG];simp[Atom.bytes,kw,rb]
  .simp only[if_true]
   simp[Atom.bytes,kw,rb]
 | .gv e th rest=>by
  have ao:=eT t rest;unfold cD at *;simp only[aW,an.list,KJ,List.flatten_cons,<-ao,du,bf,a5,fG,bW]
  simp[Atom.bytes,kw]
 | .ret rest=>by
  have ao:=eT t rest;unfold cD at *;simp only[aW,an.list,KJ,List.flatten_cons,<-ao,du,bf,a5,fG];simp[Atom.bytes,kw]
def aA.kind:aA->Int
 | .set v _ _=>if v then 1 else 2
 | .call g _ _=>if g then 4 else 3
 | .lock u _=>if u then 6 else 5
 | .ite ..=>7
 | .gv ..=>8
 | .ret=>9
def aA.name:aA->ByteArray
 | .set _ n _=>n
 | .call _ n _=>n
 | _=>⟨#[]⟩
def aA.expr:aA->Option VE
 | .set _ _ e=>some e
 | .ite e _ _=>some e
 | .gv e _=>some e
 | _=>none
def aA.ref:aA->Option eO
 | .lock _ r=>some r
 | _=>none
def aA.args:aA->List dn
 | .call _ _ a1=>a1
 | _=>[]
def aA.th:aA->an
 | .ite _ th _=>th
 | .gv _ th=>th
 | _=>.nil
def aA.el:aA->an
 | .ite _ _ el=>el
 | _=>.nil
def pE:Option eO->D
 | none=>fV
 | some r=>kx r
theorem rn(s:aA):bg s=gE s.kind s.name (oj s.expr) (pE s.ref) (s.args.map gI) (c4 s.th) (c4 s.el):=by
 cases s<;>rfl
theorem nh(s:aA):(bg s).sz=11:=by
 rw[rn];have ac:(oj s.expr).sz=4:=by
  cases s.expr with
  | none=>rfl
  | some x=>exact c7 x
 have au:(pE s.ref).sz=2:=by cases s.ref<;>rfl
 unfold gE;simp only[D.sz,D.yF,ac,au]
theorem pF{x:Option VE}(h:(oj x).rep w P cs):∃o n s A m c,cs=[.int .i64 o,.int .i64 n,.string s,.slice A m c]:=by
 cases x with
 | none=>obtain⟨A,c,rfl⟩:=fh.1 h;exact⟨_,_,_,_,_,_,rfl⟩
 | some x=>obtain⟨A,n,c,rfl,_⟩:=a1.1 h;exact⟨_,_,_,_,_,_,rfl⟩
theorem tz{x:Option eO}(h:(pE x).rep w P cs):∃s A m c,cs=[.string s,.slice A m c]:=by
 cases x with
 | none=>
  unfold pE fV at h;rw[bI,cp] at h;obtain⟨z,rfl,hx⟩:=h;obtain⟨A,n,c,bF,rfl,_,_,bt⟩:=aN.1 hx;rw[aP] at bt;subst bt
  exact⟨_,_,_,_,rfl⟩
 | some x=>obtain⟨A,n,c,rfl,_⟩:=jv.1 h;exact⟨_,_,_,_,rfl⟩
structure H3(w:World)(P:Nat->Prop)(s:aA)(eo en:Int)(es:ByteArray)(EA:Lp)(em ec:Nat)(rs:ByteArray)(cc:Lp)(cI rc:Nat)(bU:Lp)(n1:Nat)(A2:Lp)(n2:Nat)(cC:Lp)(n3:Nat):Prop where
 expr:(oj s.expr).rep w P [.int .i64 eo,.int .i64 en,.string es,.slice EA em ec]
 ref:(pE s.ref).rep w P [.string rs,.slice cc cI rc]
 args:Sl w P bU n1 (s.args.map gI)
 th:Sl w P A2 n2 (c4 s.th)
 el:Sl w P cC n3 (c4 s.el)
variable{s:aA}
theorem k7(h:(bg s).rep w P cs):∃eo en es EA em ec rs cc cI rc bU n1 c1 A2 n2 c2 cC n3 c3,
  cs=[.int .i64 s.kind,.string s.name,.int .i64 eo,.int .i64 en,.string es,.slice EA em ec,.string rs,.slice cc cI rc,.slice bU n1 c1,.slice A2 n2 c2,.slice cC n3 c3]/\
  H3 w P s eo en es EA em ec rs cc cI rc bU n1 A2 n2 cC n3:=by
 rw[rn] at h;unfold gE at h;rw[bI,bm] at h;obtain⟨y,rfl,h⟩:=h;rw[cp] at h;obtain⟨cd,rfl,h⟩:=h;obtain⟨E,bv,rfl,he,h⟩:=dD.1 h;obtain⟨aC,cJ,rfl,a5,h⟩:=dD.1 h;obtain⟨bU,n1,c1,a,rfl,_,ac,h⟩:=aN.1 h;obtain⟨A2,n2,c2,b,rfl,_,au,h⟩:=aN.1 h;obtain⟨cC,n3,c3,d,rfl,_,aU,h⟩:=aN.1 h;rw[aP] at h;subst h;obtain⟨o,n,s,A,m,c,rfl⟩:=pF he;obtain⟨Q,I,bK,aJ,rfl⟩:=tz a5
 iterate 19 apply Exists.intro
 exact⟨rfl,he,a5,ac,au,aU⟩
def nB:an->Prop
 | .nil=>True
 | .set _ _ e rest=>(∃N d,e.src N d)/\nB rest
 | .call _ _ a1 rest=>((∀a∈a1,FD a)/\a1.length<=1000)/\nB rest
 | .lock _ r rest=>Ej r/\nB rest
 | .ite e th el rest=>(∃N d,e.src N d)/\nB th/\nB el/\nB rest
 | .gv e th rest=>(∃N d,e.src N d)/\nB th/\nB rest
 | .ret rest=>nB rest
def hj(b:an):Prop:=∀(t:Nat) (A:Lp) (n c:Nat) (w:World),t+b.num<=1000000->Sl w (av w) A n (c4 b)->(cD t b).length<=262144->
 Calls prog 133 #[.slice A n c,.string (strOf (List.replicate t 9))] w λe ab=>e=.returned (.string (strOf (cD t b)))/\Ext w ab
structure uU(s:aA)(N:Nat):Prop where
 expr:∀e,s.expr=some e->∃N d,e.src N d
 ref:∀r,s.ref=some r->Ej r
 args:∀a∈s.args,FD a
 jy:s.args.length<=1000
 th:hj s.th
 el:hj s.el
 Ho:s.th.num<N\/s.th=.nil
 Hn:s.el.num<N\/s.el=.nil
theorem g7{α:Type}{x:α}(h:(none:Option α)=some x):p:=by cases h
theorem Jw(f:∀b:an,(∀s∈b.list,uU s b.num)->hj b):∀b:an,nB b->hj b/\∀s∈b.list,uU s b.num:=by
 have mono:∀{s:aA} {n m:Nat},n<=m->uU s n->uU s m:=λh k=>⟨k.expr,k.ref,k.args,k.jy,k.th,k.el,k.Ho.imp (λx=>KE x h) id,k.Hn.imp (λx=>KE x h) id⟩
 have c:hj .nil:=f .nil λs hs=>by simp[an.list] at hs
 have fin:∀b:an,(∀s∈b.list,uU s b.num)->hj b/\∀s∈b.list,uU s b.num:=λb h=>⟨f b h,h⟩
 intro b
 induction b with
 | nil=>exact λ_=>fin _ λs hs=>by simp[an.list] at hs
 | set v n e rest ao=>
  intro h;refine fin _ λs hs=>?_;rcases KT.1 hs with rfl|hs
  .exact⟨λl he=>(by cases he;exact h.1),λr a5=>g7 a5,λa bx=>(nomatch bx),by simp[aA.args],c,c,.inr rfl,.inr rfl⟩
  .exact mono (by simp[an.num]) ((ao h.2).2 s hs)
 | call g n a1 rest ao=>
  intro h;refine fin _ λs hs=>?_;rcases KT.1 hs with rfl|hs
  .exact⟨λl he=>g7 he,λr a5=>g7 a5,h.1.1,h.1.2,c,c,.inr rfl,.inr rfl⟩
  .exact mono (by simp[an.num]) ((ao h.2).2 s hs)
 | lock u r rest ao=>
  intro h;refine fin _ λs hs=>?_;rcases KT.1 hs with rfl|hs
  .exact⟨λl he=>g7 he,λd a5=>(by cases a5;exact h.1),λa bx=>(nomatch bx),by simp[aA.args],c,c,.inr rfl,.inr rfl⟩
  .exact mono (by simp[an.num]) ((ao h.2).2 s hs)
 | ite e th el rest j o ao=>
  intro h;refine fin _ λs hs=>?_;rcases KT.1 hs with rfl|hs
  .exact⟨λl he=>(by cases he;exact h.1),λr a5=>g7 a5,λa bx=>(nomatch bx),by simp[aA.args],(j h.2.1).1,(o h.2.2.1).1,.inl (by simp[aA.th,an.num];omega),.inl (by simp[aA.el,an.num];omega)⟩
  .exact mono (by simp[an.num];omega) ((ao h.2.2.2).2 s hs)
 | gv e th rest j ao=>
  intro h;refine fin _ λs hs=>?_;rcases KT.1 hs with rfl|hs
  .exact⟨λl he=>(by cases he;exact h.1),λr a5=>g7 a5,λa bx=>(nomatch bx),by simp[aA.args],(j h.2.1).1,c,.inl (by simp[aA.th,an.num];omega),.inr rfl⟩
  .exact mono (by simp[an.num];omega) ((ao h.2.2).2 s hs)
 | ret rest ao=>
  intro h;refine fin _ λs hs=>?_;rcases KT.1 hs with rfl|hs
  .exact⟨λl he=>g7 he,λr a5=>g7 a5,λa bx=>(nomatch bx),by simp[aA.args],c,c,.inr rfl,.inr rfl⟩
  .exact mono (by simp[an.num]) ((ao h).2 s hs)
def iO(t:Nat)(l:List aA):List UInt8:=(l.map (du t)).flatten
theorem x0{t:Nat}{l:List aA}{k:Nat}(h:l[k]?=some s):iO t (l.take (k+1))=iO t (l.take k)++du t s:=by
 unfold iO;rw[List.take_add_one,h,KK,List.flatten_append];simp
theorem xg(t:Nat)(l:List aA)(k:Nat):(iO t (l.take k)).length<=(iO t l).length:=by
 conv=>rhs;rw[<-List.take_append_drop k l]
 unfold iO;rw[KK,List.flatten_append,KF];omega
theorem eU:∀b:an,b.list.length<=b.num
 | .nil=>KD _
 | .set v n e rest=>by have:=eU rest;simp[an.list,an.num];omega
 | .call g n a1 rest=>by have:=eU rest;simp[an.list,an.num];omega
 | .lock u r rest=>by have:=eU rest;simp[an.list,an.num];omega
 | .ite e th el rest=>by have:=eU rest;simp[an.list,an.num];omega
 | .gv e th rest=>by have:=eU rest;simp[an.list,an.num];omega
 | .ret rest=>by have:=eU rest;simp[an.list,an.num];omega
namespace BE
theorem zJ(h:p:=by
 exact Bb
 ):p:=h
theorem vg(h:p:=by
 have R:=ae P;clear Z dW P cy m bj O;go_upto_region 7 with(fail);generalize ba:World.alloc wr _=W;have l:=aX ba;have aR:=aK ba;obtain⟨b1,L⟩:=aH aR l;have be:=ae (D.on R.expr (Fr.ext l));have X:=ae (D.on R.ref (Fr.ext l));have Q:=ae (R.args.on (Fr.ext l));have Y:=ae (R.th.on (Fr.ext l));have a2:=ae (R.el.on (Fr.ext l));obtain⟨a0,ai,af⟩:=aR.two;clear ba l aR d0 d1 d2 d3 d4 d5 d6 d7 d8 d9 d10 R aV;have aj:(strOf (iO t (b.list.take k))++T).size<=2000000:=by rw[ByteArray.size_append];omega
 generalize E:strOf (iO t (b.list.take k))++T=pre at *;have y:=ae E.symm;clear E bt
 cases s with
 | set v nm e=>
  obtain⟨N,d,hx⟩:=a5.expr e rfl;have aQ:=ae (jH N d e hx);have cu:(bW e).length<=262144:=by have:=aD.o;simp[du] at this;omega
  have f:=ae cu;have ck:(strOf (bW e)).size<=262144:=by rw[aO];exact cu
  have z:nm.size<=262144:=by have:=aD.o;simp[du] at this;have au:nm.size=nm.data.toList.length:=rfl;simp at au;omega
  clear cu hx;simp only[aA.kind,aA.name] at *;cases v
  .simp only[Lj,if_false] at *;have aL:=ae (show (((((pre++nm)++(⟨#[32,61,32]⟩:ByteArray))++strOf (bW e))++(⟨#[59]⟩:ByteArray))++(⟨#[10]⟩:ByteArray))=strOf (iO t (b.list.take (k+1))) by
    rw[i.o,y.o,<-aa.o];rw[show (⟨#[32,61,32]⟩:ByteArray)=strOf [32,61,32] from rfl];rw[show (⟨#[59]⟩:ByteArray)=strOf [59] from rfl];rw[show (⟨#[10]⟩:ByteArray)=strOf [10] from rfl];conv=>lhs;rw[<-db nm]
    rw[ag,ag,ag,ag,ag,ag];simp[du])
   go_wp2;refine eK (λ_=>False) [(0,3),(1,3),(2,0),(3,3),(4,3),(5,3),(6,0),(7,1),(8,3),(9,3),(10,3)] ?_
   iterate 2 refine pf ?_
   refine ph ?_;refine br (v:=?_) rfl (by rfl) (λV=>?_) ?_;rotate_left
   .go_simp;exact ei
   try simp only[PU]
   refine br (v:=?_) rfl (by rfl) (λV=>?_) ?_;rotate_left
   .go_simp;exact ei
   try simp only[PU]
   refine pf ?_;refine ph ?_;refine aI rfl (λK hK=>?_);go_simp;refine(aQ.o _ _ _ _ _ _ _ (D.on be.o (Fr.ext Ll.drew)) f.o).mono ?_;exact zI
  .simp only[if_true] at *;have aL:=ae (show ((((((pre++(⟨#[118,97,114,32]⟩:ByteArray))++nm)++(⟨#[32,61,32]⟩:ByteArray))++strOf (bW e))++(⟨#[59]⟩:ByteArray))++(⟨#[10]⟩:ByteArray))=strOf (iO t (b.list.take (k+1))) by
    rw[i.o,y.o,<-aa.o];rw[show (⟨#[118,97,114,32]⟩:ByteArray)=strOf [118,97,114,32] from rfl];rw[show (⟨#[32,61,32]⟩:ByteArray)=strOf [32,61,32] from rfl];rw[show (⟨#[59]⟩:ByteArray)=strOf [59] from rfl];rw[show (⟨#[10]⟩:ByteArray)=strOf [10] from rfl];conv=>lhs;rw[<-db nm]
    rw[ag,ag,ag,ag,ag,ag,ag];simp[du])
   go_wp2;refine eK (λ_=>False) [(0,3),(1,3),(2,3),(3,0),(4,3),(5,3),(6,3),(7,0),(8,1),(9,3),(10,3),(11,3)] ?_;refine pf ?_;refine br (v:=?_) rfl (by rfl) (λV=>?_) ?_;rotate_left
   .go_simp;exact ei
   try simp only[PU]
   refine pf ?_;refine ph ?_;refine br (v:=?_) rfl (by rfl) (λV=>?_) ?_;rotate_left
   .go_simp;exact ei
   try simp only[PU]
   refine br (v:=?_) rfl (by rfl) (λV=>?_) ?_;rotate_left
   .go_simp;exact ei
   try simp only[PU]
   refine pf ?_;refine ph ?_;refine aI rfl (λK hK=>?_);go_simp;refine(aQ.o _ _ _ _ _ _ _ (D.on be.o (Fr.ext Ll.drew)) f.o).mono ?_
   exact AV
 | call g nm a1=>
  have aQ:=ae (ss a1 a5.args);have cu:(hL a1).length<=262144:=by have:=aD.o;simp[du] at this;omega
  have f:=ae cu;have cY:n1<=1000:=by have ac:=Q.1;have au:=a5.jy;simp[aA.args] at ac au;omega
  have U:=ae cY;have ck:(strOf (hL a1)).size<=262144:=by rw[aO];exact cu
  have z:nm.size<=262144:=by have:=aD.o;simp[du] at this;have au:nm.size=nm.data.toList.length:=rfl;simp at au;omega
  clear cu cY;simp only[aA.kind,aA.name] at *;cases g
  .simp only[Lj,if_false] at *;have aL:=ae (show ((((pre++nm)++strOf (hL a1))++(⟨#[59]⟩:ByteArray))++(⟨#[10]⟩:ByteArray))=strOf (iO t (b.list.take (k+1))) by
    rw[i.o,y.o,<-aa.o];rw[show (⟨#[59]⟩:ByteArray)=strOf [59] from rfl];rw[show (⟨#[10]⟩:ByteArray)=strOf [10] from rfl];conv=>lhs;rw[<-db nm]
    rw[ag,ag,ag,ag,ag];simp[du])
   go_wp2;refine eK (λ_=>False) [(0,3),(1,3),(2,0),(3,3),(4,3),(5,0),(6,1),(7,3),(8,3),(9,3)] ?_
   iterate 2 refine pf ?_
   exact Ba
  .simp only[if_true] at *;have aL:=ae (show (((((pre++(⟨#[103,111,32]⟩:ByteArray))++nm)++strOf (hL a1))++(⟨#[59]⟩:ByteArray))++(⟨#[10]⟩:ByteArray))=strOf (iO t (b.list.take (k+1))) by
    rw[i.o,y.o,<-aa.o];rw[show (⟨#[103,111,32]⟩:ByteArray)=strOf [103,111,32] from rfl];rw[show (⟨#[59]⟩:ByteArray)=strOf [59] from rfl];rw[show (⟨#[10]⟩:ByteArray)=strOf [10] from rfl];conv=>lhs;rw[<-db nm]
    rw[ag,ag,ag,ag,ag,ag];simp[du])
   go_wp2;refine eK (λ_=>False) [(0,3),(1,3),(2,3),(3,0),(4,3),(5,3),(6,0),(7,1),(8,3),(9,3),(10,3)] ?_;refine pf ?_;refine br (v:=?_) rfl (by rfl) (λV=>?_) ?_;rotate_left
   .go_simp;exact ei
   try simp only[PU]
   refine pf ?_
   exact Ba
 | lock u r=>
  have aQ:=ae (kE r (a5.ref r rfl));have cu:(fT r).length<=262144:=by have:=aD.o;simp[du] at this;omega
  have f:=ae cu;have ck:(strOf (fT r)).size<=262144:=by rw[aO];exact cu
  clear cu;simp only[aA.kind,aA.name] at *;cases u
  .simp only[Lj,if_false] at *;have aL:=ae (show ((((pre++(⟨#[108,111,99,107,32]⟩:ByteArray))++strOf (fT r))++(⟨#[59]⟩:ByteArray))++(⟨#[10]⟩:ByteArray))=strOf (iO t (b.list.take (k+1))) by
    rw[i.o,y.o,<-aa.o];rw[show (⟨#[108,111,99,107,32]⟩:ByteArray)=strOf [108,111,99,107,32] from rfl];rw[show (⟨#[59]⟩:ByteArray)=strOf [59] from rfl];rw[show (⟨#[10]⟩:ByteArray)=strOf [10] from rfl];rw[ag,ag,ag,ag,ag];simp[du])
   exact A3
  .simp only[if_true] at *;have aL:=ae (show ((((pre++(⟨#[117,110,108,111,99,107,32]⟩:ByteArray))++strOf (fT r))++(⟨#[59]⟩:ByteArray))++(⟨#[10]⟩:ByteArray))=strOf (iO t (b.list.take (k+1))) by
    rw[i.o,y.o,<-aa.o];rw[show (⟨#[117,110,108,111,99,107,32]⟩:ByteArray)=strOf [117,110,108,111,99,107,32] from rfl];rw[show (⟨#[59]⟩:ByteArray)=strOf [59] from rfl];rw[show (⟨#[10]⟩:ByteArray)=strOf [10] from rfl];rw[ag,ag,ag,ag,ag];simp[du])
   exact A3
 | gv e th=>
  obtain⟨N,d,hx⟩:=a5.expr e rfl;have aQ:=ae (jH N d e hx);have cu:(bW e).length<=262144:=by have:=aD.o;simp[du] at this;omega
  have bI:(cD (t+1) th).length<=262144:=by have:=aD.o;simp[du] at this;unfold cD;omega
  obtain⟨f,I⟩:=aH cu bI;have ck:(strOf (bW e)).size<=262144:=by rw[aO];exact cu
  have z:(strOf (cD (t+1) th)).size<=262144:=by rw[aO];exact bI
  have q:=ae (show T++⟨#[9]⟩=strOf (List.replicate (t+1) 9) by rw[<-aa.o,show (⟨#[9]⟩:ByteArray)=strOf [9] from rfl,ag,List.replicate_succ']);have M:=ae (show t+1+th.num<=1000000 by
   have ac:=al.o;have au:=eU b;have aU:=b9.o;rcases a5.Ho with h|h
   .simp only[aA.th] at h;omega
   .simp only[aA.th] at h;subst h;simp only[an.num];omega)
  clear cu hx bI;simp only[aA.kind,aA.name] at *;obtain rfl:n3=0:=by have:=a2.1;simpa[aA.el,c4] using this.symm
  have aL:=ae (show (((((((pre++(⟨#[119,104,105,108,101,32]⟩:ByteArray))++strOf (bW e))++(⟨#[32,123,10]⟩:ByteArray))++strOf (cD (t+1) th))++T)++(⟨#[125]⟩:ByteArray))++(⟨#[10]⟩:ByteArray))=strOf (iO t (b.list.take (k+1))) by
   rw[i.o,y.o,<-aa.o];rw[show (⟨#[119,104,105,108,101,32]⟩:ByteArray)=strOf [119,104,105,108,101,32] from rfl];rw[show (⟨#[32,123,10]⟩:ByteArray)=strOf [32,123,10] from rfl];rw[show (⟨#[125]⟩:ByteArray)=strOf [125] from rfl];rw[show (⟨#[10]⟩:ByteArray)=strOf [10] from rfl];rw[ag,ag,ag,ag,ag,ag,ag,ag];simp[du,cD])
  exact AU
 | ite e th el=>
  obtain⟨N,d,hx⟩:=a5.expr e rfl;have aQ:=ae (jH N d e hx);have cu:(bW e).length<=262144:=by have:=aD.o;simp[du] at this;omega
  have bI:(cD (t+1) th).length<=262144:=by have:=aD.o;simp[du] at this;unfold cD;omega
  obtain⟨f,I⟩:=aH cu bI;have ck:(strOf (bW e)).size<=262144:=by rw[aO];exact cu
  have z:(strOf (cD (t+1) th)).size<=262144:=by rw[aO];exact bI
  have q:=ae (show T++⟨#[9]⟩=strOf (List.replicate (t+1) 9) by rw[<-aa.o,show (⟨#[9]⟩:ByteArray)=strOf [9] from rfl,ag,List.replicate_succ']);have M:=ae (show t+1+th.num<=1000000 by
   have ac:=al.o;have au:=eU b;have aU:=b9.o;rcases a5.Ho with h|h
   .simp only[aA.th] at h;omega
   .simp only[aA.th] at h;subst h;simp only[an.num];omega)
  clear cu hx bI;simp only[aA.kind,aA.name] at *;have x:=ae a2.1;by_cases dK:n3=0
  .subst dK;have j:=ae (show el.isNil=true by have ac:=x.o;simp only[aA.el,cF,KH] at ac;cases el<;>first|rfl|simp[an.list] at ac);have aL:=ae (show (((((((pre++(⟨#[105,102,32]⟩:ByteArray))++strOf (bW e))++(⟨#[32,123,10]⟩:ByteArray))++strOf (cD (t+1) th))++T)++(⟨#[125]⟩:ByteArray))++(⟨#[10]⟩:ByteArray))=strOf (iO t (b.list.take (k+1))) by
    rw[i.o,y.o,<-aa.o];rw[show (⟨#[105,102,32]⟩:ByteArray)=strOf [105,102,32] from rfl];rw[show (⟨#[32,123,10]⟩:ByteArray)=strOf [32,123,10] from rfl];rw[show (⟨#[125]⟩:ByteArray)=strOf [125] from rfl];rw[show (⟨#[10]⟩:ByteArray)=strOf [10] from rfl];rw[ag,ag,ag,ag,ag,ag,ag,ag];simp[du,cD,j.o])
   exact AU
  .have j:=ae (show el.isNil=false by have ac:=x.o;simp only[aA.el,cF,KH] at ac;cases el<;>first|rfl|(simp[an.list] at ac;omega));have cg:(cD (t+1) el).length<=262144:=by have:=aD.o;simp[du,j.o] at this;unfold cD;omega
   have J:=ae cg;have ah:(strOf (cD (t+1) el)).size<=262144:=by rw[aO];exact cg
   have bz:=ae (show t+1+el.num<=1000000 by
    have ac:=al.o;have au:=eU b;have aU:=b9.o;rcases a5.Hn with h|h
    .simp only[aA.el] at h;omega
    .simp only[aA.el] at h;subst h;simp only[an.num];omega)
   have cn:0<n3:=ad;clear cg;have aL:=ae (show (((((((((((pre++(⟨#[105,102,32]⟩:ByteArray))++strOf (bW e))++(⟨#[32,123,10]⟩:ByteArray))++strOf (cD (t+1) th))++T)++(⟨#[125]⟩:ByteArray))++(⟨#[32,101,108,115,101,32,123,10]⟩:ByteArray))++strOf (cD (t+1) el))++T)++(⟨#[125]⟩:ByteArray))++(⟨#[10]⟩:ByteArray))=strOf (iO t (b.list.take (k+1))) by
    rw[i.o,y.o,<-aa.o];rw[show (⟨#[105,102,32]⟩:ByteArray)=strOf [105,102,32] from rfl];rw[show (⟨#[32,123,10]⟩:ByteArray)=strOf [32,123,10] from rfl];rw[show (⟨#[125]⟩:ByteArray)=strOf [125] from rfl];rw[show (⟨#[32,101,108,115,101,32,123,10]⟩:ByteArray)=strOf [32,101,108,115,101,32,123,10] from rfl];rw[show (⟨#[10]⟩:ByteArray)=strOf [10] from rfl];rw[ag,ag,ag,ag,ag,ag,ag,ag,ag,ag,ag,ag];simp[du,cD,j.o])
   go_wp2;refine eK (λ_=>False) [(0,3),(1,3),(2,3),(3,3),(4,0),(8,3),(9,0),(10,3),(11,3),(14,3),(5,1),(6,3),(7,3),(12,2),(13,3),(15,3),(16,3),(17,3)] ?_
   iterate 2 refine pf ?_
   refine br (v:=?_) rfl (by rfl) (λV=>?_) ?_;rotate_left
   .go_simp;exact ei
   try simp only[PU]
   refine pf ?_;refine ph ?_;refine pf ?_;refine ph ?_;refine pf ?_;refine br (v:=?_) rfl (by rfl) (λV=>?_) ?_;rotate_left
   .go_simp;exact ei
   try simp only[PU]
   refine pf ?_;refine aI rfl (λK hK=>?_);go_simp;refine(aQ.o _ _ _ _ _ _ _ (D.on be.o (Fr.ext Ll.drew)) f.o).mono ?_;rintro e aS ⟨rfl,ar⟩;refine dz hK (ar) ?_;clear hK K;refine br (v:=?_) rfl (by rfl) (λV=>?_) ?_;rotate_left
   .go_simp;exact ei
   try simp only[PU]
   refine br (v:=?_) rfl (by rfl) (λV=>?_) ?_;rotate_left
   .go_simp;exact ei
   try simp only[PU]
   refine ax rfl (λK hK=>?_);go_simp;rw[q.o];refine((show hj th from a5.th) (t+1) A2 n2 c2 _ M.o (Y.on (Fr.ext (Fr.aF ar))) I.o).mono ?_;rintro e aT ⟨rfl,bw⟩;refine dO hK ?_;clear hK K;refine br (v:=?_) rfl (by rfl) (λV=>?_) ?_;rotate_left
   .go_simp;exact ei
   try simp only[PU]
   refine br (v:=?_) rfl (by rfl) (λV=>?_) ?_;rotate_left
   .go_simp;exact ei
   try simp only[PU]
   refine br (v:=?_) rfl (by rfl) (λV=>?_) ?_;rotate_left
   .go_simp;exact ei
   try simp only[PU]
   refine pf ?_;refine aE ?_;have bu:=ae ((Fr.aF ar).trans bw);obtain⟨v0,ay⟩:=Fr.s6 bu.o;clear ar bw;have dd:decide ((n3:Int) > 0)=true:=by simp;omega
   go_wp2_with(fail);rw[q.o];refine((show hj el from a5.el) (t+1) cC n3 c3 _ bz.o (a2.on (Fr.ext bu.o)) J.o).mono ?_;rintro e bX ⟨rfl,bT⟩;have a4:=ae (bu.trans bT);clear bT;go_wp2;go_roundw
   case rel=>exact⟨k+1,ad,by go_num,by rw[<-aL.o],bq.trans (L.trans a4.o)⟩
   case measure=>exact aG
 | ret=>
  simp only[aA.kind,aA.name] at *;have aL:=ae (show ((pre++(⟨#[114,101,116,117,114,110,59]⟩:ByteArray))++(⟨#[10]⟩:ByteArray))=strOf (iO t (b.list.take (k+1))) by
   rw[i.o,y.o,<-aa.o];rw[show (⟨#[114,101,116,117,114,110,59]⟩:ByteArray)=strOf [114,101,116,117,114,110,59] from rfl];rw[show (⟨#[10]⟩:ByteArray)=strOf [10] from rfl];rw[ag,ag,ag];simp[du])
  have bu:=ae (Fr.refl (λ_=>False) W);exact w7
 ):p:=h
end BE
open BE in
theorem vU(b:an)(H:∀s∈b.list,uU s b.num):hj b:=by
 intro t A n c w ti hs hlen;have hl:b.list.length=n:=by rw[<-hs.1,cF,KH]
 have hn:n<=1000000:=by have:=eU b;omega
 have G:t<=1000000:=ad;have ab:(strOf (List.replicate t 9)).size<=1000000:=by rw[aO,List.length_replicate];exact G
 rw[cF] at hs;rw[eT] at hlen ⊢;obtain⟨b9,bo,az⟩:=eh hl hs H;have F:=ae (show (iO t b.list).length<=262144 from hlen);have al:=ae ti;have S:=ae (show iO t (b.list.take n)=(b.list.map (du t)).flatten by rw[<-hl,List.take_length];rfl);clear hs H hlen hl ti G;generalize hT:strOf (List.replicate t 9)=T at *;have aa:=ae hT;clear hT;go_enter func133,ntmps133;go_wp2;go_loopw [5,6] (λsv bd wr=>∃k:Nat,k<=n/\bd=.int .i64 k/\sv=.string (strOf (iO t (b.list.take k)))/\Ext w wr) (λ_ bd _=>n - (intOf bd).toNat)
 case atStart=>exact⟨0,ad,rfl,rfl,Ll⟩
 case round=>
  obtain⟨k,ap,rfl,rfl,aw⟩:=hrel;have bq:=ae aw;clear aw;have bt:(strOf (iO t (b.list.take k))).size<=262144:=by
   rw[aO];exact KU (xg t _ k) F.o
  by_cases ak:k<n
  .obtain⟨bb,o,s,cs,rfl,O,cy,dW,bj,Z⟩:=(bo.on (Fr.ext bq.o)).g0 nh ak;have aV:bb<wr.heap.size:=O;have i:=ae (x0 (t:=t) cy);have a5:=ae (az.o s (KG cy));have m:(du t s).length<=262144:=by
    have ac:=xg t b.list (k+1);rw[i.o] at ac;have au:=F.o;simp at ac;omega
   have aD:=ae m;obtain⟨eo,en,es,EA,em,ec,rs,cc,cI,rc,bU,n1,c1,A2,n2,c2,cC,n3,c3,rfl,P⟩:=k7 dW;exact vf
  .obtain rfl:k=n:=ad;go_wp2;go_ret;exact⟨ret_str (by rw[S.o]),bq.o⟩
end Go.Proofs.YtglbpimocmhojaaGreat
