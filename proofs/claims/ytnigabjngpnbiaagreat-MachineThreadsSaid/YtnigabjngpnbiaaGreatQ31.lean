/- Part 31 of the proof. No condition of its own. -/
import Derived.Test.YtnigabjngpnbiaaGreatQ19
namespace Go.Proofs.YtnigabjngpnbiaaGreat
open Go.RowKit Go.Proofs.Tryz
set_option maxRecDepth 1000000
set_option maxHeartbeats 25600000
set_option linter.unusedVariables false
variable{n:Nat}{f:a1}{p:bC}
def v9(i:Nat):ByteArray:=⟨#[103,UInt8.ofNat (48+i)]⟩
def wj(i:Nat):ByteArray:=⟨#[UInt8.ofNat (97+i)]⟩
def v7(i:Nat):ByteArray:=if i=0 then hZ else ⟨#[102,UInt8.ofNat (48+i)]⟩
def HJ(i:Nat):ByteArray:=⟨#[112,UInt8.ofNat (48+i)]⟩
def iz:Nat->List ByteArray
 | 0=>[]
 | n+1=>HJ (n+1)::iz n
def vl(ng nm nf:Nat):List ByteArray:=(List.range ng).map v9++(List.range nm).map wj++(List.range nf).map v7
def mP:List ByteArray:=vl 2 4 4++iz 2
theorem ot:mP.Nodup:=by
 have h:(mP.map λs=>s.data.toList).Nodup:=by decide
 exact(List.pairwise_map.1 h).imp λaH e=>aH (by rw[e])
theorem rm:∀s∈mP,bw s.data.toList=true:=by decide
theorem xa:vz mP 26:=by
 have h:∀k:Fin 26,(pq k.val).data.toList∉mP.map λs=>s.data.toList:=by decide
 intro k aj hm;exact h ⟨k,aj⟩ (J6.2 ⟨_,hm,rfl⟩)
theorem uH(h:n<=2):(iz n).Sublist (iz 2):=by
 obtain rfl|rfl|rfl:n=0\/n=1\/n=2:=ad
 .exact List.nil_sublist _
 .exact List.Sublist.cons _ (List.Sublist.refl _)
 .exact List.Sublist.refl _
theorem DN{ng nm nf:Nat}(ac:ng<=2)(ap:nm<=4)(aD:nf<=4)(bt:n<=2):(vl ng nm nf++iz n).Sublist mP:=by
 unfold mP vl;refine List.Sublist.append (List.Sublist.append (List.Sublist.append ?_ ?_) ?_) (uH bt)
 .exact(List.range_sublist.2 ac).map _
 .exact(List.range_sublist.2 ap).map _
 .exact(List.range_sublist.2 aD).map _
theorem mq{α:Type}{f:α->ByteArray}{h:Nat->ByteArray}{l:List α}(hl:∀i x,l[i]?=some x->f x=h i):l.map f=(List.range l.length).map h:=by
 apply List.ext_getElem?
 intro i;rw[List.getElem?_map,List.getElem?_map];by_cases I:i<l.length
 .have hx:l[i]?=some l[i]:=List.getElem?_eq_getElem I;rw[hx,List.getElem?_range I];simp[hl i _ hx]
 .rw[List.getElem?_eq_none ad,List.getElem?_eq_none (by simp;omega)];rfl
structure gZ(p:bC):Prop where
 ng:p.globals.length<=2
 nm:1<=p.af.length/\p.af.length<=4
 nf:1<=p.funcs.length/\p.funcs.length<=4
 gs:∀i g,p.globals[i]?=some g->g.1=v9 i∧-2<=g.2/\g.2<=2
 ms:∀i m,p.af[i]?=some m->m.name=wj i/\0<=m.size/\m.size<=3/\(m.re=true->m.size=0)
 fs:∀i f,p.funcs[i]?=some f->f.name=v7 i/\(∃n,n<=2/\f.params.map (·.1)=iz n)/\(i=0->f.params=[])
theorem gZ.vl{p:bC}(h:gZ p):bF p=vl p.globals.length p.af.length p.funcs.length:=by
 unfold bF gU YtnigabjngpnbiaaGreat.vl;rw[mq λi x hx=>(h.gs i x hx).1,mq λi x hx=>(h.ms i x hx).1,mq λi x hx=>(h.fs i x hx).1]
theorem gZ.sub(h:gZ p)(aA:f∈p.funcs):(bF p++f.params.map (·.1)).Sublist mP:=by
 obtain⟨i,I⟩:=List.getElem?_of_mem aA;obtain⟨n,hn,hp⟩:=(h.fs i f I).2.1;rw[h.vl,hp];exact DN h.ng h.nm.2 h.nf.2 hn
theorem oM:∀n,(iz n).length=n
 | 0=>rfl
 | n+1=>by simp[iz,oM n]
theorem gZ.iN(h:gZ p)(aA:f∈p.funcs):f.params.length<=2:=by
 obtain⟨i,I⟩:=List.getElem?_of_mem aA;obtain⟨n,hn,hp⟩:=(h.fs i f I).2.1;have:=congrArg List.length hp;rw[JM,oM] at this;omega
theorem gZ.free(h:gZ p)(aA:f∈p.funcs):vz (bF p++f.params.map (·.1)) 26:=λk aj hm=>xa k aj ((h.sub aA).subset hm)
theorem gZ.IE(h:gZ p):∃f,p.funcs[0]?=some f/\f.name=hZ/\f.params=[]:=by
 have:0<p.funcs.length:=h.nf.1;have hx:p.funcs[0]?=some p.funcs[0]:=List.getElem?_eq_getElem this;exact⟨_,hx,(h.fs 0 _ hx).1,(h.fs 0 _ hx).2.2 rfl⟩
theorem gZ.env(h:gZ p)(aA:f∈p.funcs):mH (kI p f):=by
 have aj:∀{f:a1},f∈p.funcs->∀s∈bF p++f.params.map (·.1),bw s.data.toList=true:=λaA s hs=>rm s ((h.sub aA).subset hs);refine⟨λm hm=>aj aA _ ?_,λq bx=>aj aA _ ?_,λg aS=>?_⟩
 .simp only[bF,JR,J6];exact .inl (.inl (.inr ⟨m,hm,rfl⟩))
 .simp only[JR,J6];exact .inr ⟨q,bx,rfl⟩
 .obtain⟨k,b4,rfl⟩:=J6.1 aS;refine⟨aj b4 _ ?_,h.iN b4⟩;simp only[bF,JR,J6];exact .inl (.inr ⟨k,b4,rfl⟩)
theorem gZ.vars(h:gZ p)(aA:f∈p.funcs):du (gU p++hR f.params):=λs hs=>by
 refine rm s ((h.sub aA).subset ?_);rcases JR.1 hs with hs|hs
 .exact JR.2 (.inl (by simp only[bF,JR];exact .inl (.inl hs)))
 .obtain⟨q,bx,rfl⟩:=J6.1 hs;exact JR.2 (.inr (J6.2 ⟨q,(List.mem_filter.1 bx).1,rfl⟩))
theorem gZ.wf(h:gZ p)(O:∀f∈p.funcs,gr (kI p f) 4 (gU p++hR f.params) (bF p++f.params.map (·.1)) f.body)(hn:(p.funcs.map λf=>f.body.num).sum<=64):nE p:=by
 obtain⟨f0,h0,b,a⟩:=h.IE;have cr:=JL h0;have hs:=h.sub cr;rw[a] at hs;simp only[J5,J7] at hs;refine⟨λs hm=>rm s (hs.subset hm),hs.nodup ot,by have:=h.ng;omega,by have:=h.nm;omega,by have:=h.nf;omega,λg aS=>?_,λm hm=>?_,λf aA=>?_,⟨0,f0,h0,b,a⟩,hn⟩
 .obtain⟨i,I⟩:=List.getElem?_of_mem aS;have:=(h.gs i g I).2;omega
 .obtain⟨i,I⟩:=List.getElem?_of_mem hm;have:=(h.ms i m I).2;exact⟨this.1,ad,this.2.2⟩
 .refine⟨(h.env aA).params,h.iN aA,(h.sub aA).nodup ot,O f aA⟩
def h6(t:Nat)(l:List aE):List UInt8:=(l.map (db t)).flatten
theorem wW{t:Nat}{l:List aE}{k:Nat}{s:aE}(h:l[k]?=some s):h6 t (l.take (k+1))=h6 t (l.take k)++db t s:=by
 unfold h6;rw[List.take_add_one,h,JP,List.flatten_append];simp
theorem vP(t:Nat)(l:List aE)(k:Nat):(h6 t (l.take k)).length<=(h6 t l).length:=by
 conv=>rhs;rw[<-List.take_append_drop k l]
 unfold h6;rw[JP,List.flatten_append,JK];omega
theorem et:∀b:an,b.list.length<=b.num
 | .nil=>JI _
 | .set v n e rest=>by have:=et rest;simp[an.list,an.num];omega
 | .call g n aH rest=>by have:=et rest;simp[an.list,an.num];omega
 | .lock u r rest=>by have:=et rest;simp[an.list,an.num];omega
 | .ite e th el rest=>by have:=et rest;simp[an.list,an.num];omega
 | .fL e th rest=>by have:=et rest;simp[an.list,an.num];omega
 | .ret rest=>by have:=et rest;simp[an.list,an.num];omega
namespace A4
theorem yF{p:Prop}(h:p:=by
 exact AB
 ):p:=h
theorem tA{p:Prop}(h:p:=by
 have U:=ae X;clear Z dI X ch q a8 O;go_upto_region 7 with(fail);generalize ba:World.alloc wr _=W;have P:=aY ba;have aK:=aF ba;obtain⟨bL,Y⟩:=aI aK P;have bl:=ae (D.on U.expr (Fr.ext P));have ai:=ae (D.on U.ref (Fr.ext P));have M:=ae (U.args.on (Fr.ext P));have aa:=ae (U.th.on (Fr.ext P));have aZ:=ae (U.el.on (Fr.ext P));obtain⟨a0,al,af⟩:=aK.two;clear ba P aK d0 d1 d2 d3 d4 d5 d6 d7 d8 d9 d10 U aN;have ao:(strOf (h6 t (b.list.take k))++T).size<=2000000:=by rw[ByteArray.size_append];omega
 generalize F:strOf (h6 t (b.list.take k))++T=pre at *;have E:=ae F.symm;clear F bi
 cases s with
 | set v nm e=>
  obtain⟨N,d,hx⟩:=a6.expr e rfl;have aJ:=ae (ja N d e hx);have cn:(bO e).length<=262144:=by have:=aQ.o;simp[db] at this;omega
  have f:=ae cn;have dc:(strOf (bO e)).size<=262144:=by rw[aM];exact cn
  have z:nm.size<=262144:=by have:=aQ.o;simp[db] at this;have ap:nm.size=nm.data.toList.length:=rfl;simp at ap;omega
  clear cn hx;simp only[aE.kind,aE.name] at *;cases v
  .simp only[Kd,if_false] at *;have S:=ae (show (((((pre++nm)++(⟨#[32,61,32]⟩:ByteArray))++strOf (bO e))++(⟨#[59]⟩:ByteArray))++(⟨#[10]⟩:ByteArray))=strOf (h6 t (b.list.take (k+1))) by
    rw[i.o,E.o,<-b1.o];rw[show (⟨#[32,61,32]⟩:ByteArray)=strOf [32,61,32] from rfl];rw[show (⟨#[59]⟩:ByteArray)=strOf [59] from rfl];rw[show (⟨#[10]⟩:ByteArray)=strOf [10] from rfl];conv=>lhs;rw[<-cV nm]
    rw[ag,ag,ag,ag,ag,ag];simp[db])
   go_wp2;refine fj (λ_=>False) [(0,3),(1,3),(2,0),(3,3),(4,3),(5,3),(6,0),(7,1),(8,3),(9,3),(10,3)] ?_
   iterate 2 refine pf ?_
   refine ph ?_;refine bf (v:=?_) rfl (by rfl) (λV=>?_) ?_;rotate_left
   .go_simp;exact dK
   try simp only[PU]
   refine bf (v:=?_) rfl (by rfl) (λV=>?_) ?_;rotate_left
   .go_simp;exact dK
   try simp only[PU]
   refine pf ?_;refine ph ?_;refine aP rfl (λK hK=>?_);go_simp;refine(aJ.o _ _ _ _ _ _ _ (D.on bl.o (Fr.ext Kf.drew)) f.o).mono ?_;exact yE
  .simp only[if_true] at *;have S:=ae (show ((((((pre++(⟨#[118,97,114,32]⟩:ByteArray))++nm)++(⟨#[32,61,32]⟩:ByteArray))++strOf (bO e))++(⟨#[59]⟩:ByteArray))++(⟨#[10]⟩:ByteArray))=strOf (h6 t (b.list.take (k+1))) by
    rw[i.o,E.o,<-b1.o];rw[show (⟨#[118,97,114,32]⟩:ByteArray)=strOf [118,97,114,32] from rfl];rw[show (⟨#[32,61,32]⟩:ByteArray)=strOf [32,61,32] from rfl];rw[show (⟨#[59]⟩:ByteArray)=strOf [59] from rfl];rw[show (⟨#[10]⟩:ByteArray)=strOf [10] from rfl];conv=>lhs;rw[<-cV nm]
    rw[ag,ag,ag,ag,ag,ag,ag];simp[db])
   go_wp2;refine fj (λ_=>False) [(0,3),(1,3),(2,3),(3,0),(4,3),(5,3),(6,3),(7,0),(8,1),(9,3),(10,3),(11,3)] ?_;refine pf ?_;refine bf (v:=?_) rfl (by rfl) (λV=>?_) ?_;rotate_left
   .go_simp;exact dK
   try simp only[PU]
   refine pf ?_;refine ph ?_;refine bf (v:=?_) rfl (by rfl) (λV=>?_) ?_;rotate_left
   .go_simp;exact dK
   try simp only[PU]
   refine bf (v:=?_) rfl (by rfl) (λV=>?_) ?_;rotate_left
   .go_simp;exact dK
   try simp only[PU]
   refine pf ?_;refine ph ?_;refine aP rfl (λK hK=>?_);go_simp;refine(aJ.o _ _ _ _ _ _ _ (D.on bl.o (Fr.ext Kf.drew)) f.o).mono ?_
   exact Ak
 | call g nm aH=>
  have aJ:=ae (ra aH a6.args);have cn:(gY aH).length<=262144:=by have:=aQ.o;simp[db] at this;omega
  have f:=ae cn;have cH:n1<=1000:=by have ac:=M.1;have ap:=a6.iN;simp[aE.args] at ac ap;omega
  have ah:=ae cH;have dc:(strOf (gY aH)).size<=262144:=by rw[aM];exact cn
  have z:nm.size<=262144:=by have:=aQ.o;simp[db] at this;have ap:nm.size=nm.data.toList.length:=rfl;simp at ap;omega
  clear cn cH;simp only[aE.kind,aE.name] at *;cases g
  .simp only[Kd,if_false] at *;have S:=ae (show ((((pre++nm)++strOf (gY aH))++(⟨#[59]⟩:ByteArray))++(⟨#[10]⟩:ByteArray))=strOf (h6 t (b.list.take (k+1))) by
    rw[i.o,E.o,<-b1.o];rw[show (⟨#[59]⟩:ByteArray)=strOf [59] from rfl];rw[show (⟨#[10]⟩:ByteArray)=strOf [10] from rfl];conv=>lhs;rw[<-cV nm]
    rw[ag,ag,ag,ag,ag];simp[db])
   go_wp2;refine fj (λ_=>False) [(0,3),(1,3),(2,0),(3,3),(4,3),(5,0),(6,1),(7,3),(8,3),(9,3)] ?_
   iterate 2 refine pf ?_
   exact AA
  .simp only[if_true] at *;have S:=ae (show (((((pre++(⟨#[103,111,32]⟩:ByteArray))++nm)++strOf (gY aH))++(⟨#[59]⟩:ByteArray))++(⟨#[10]⟩:ByteArray))=strOf (h6 t (b.list.take (k+1))) by
    rw[i.o,E.o,<-b1.o];rw[show (⟨#[103,111,32]⟩:ByteArray)=strOf [103,111,32] from rfl];rw[show (⟨#[59]⟩:ByteArray)=strOf [59] from rfl];rw[show (⟨#[10]⟩:ByteArray)=strOf [10] from rfl];conv=>lhs;rw[<-cV nm]
    rw[ag,ag,ag,ag,ag,ag];simp[db])
   go_wp2;refine fj (λ_=>False) [(0,3),(1,3),(2,3),(3,0),(4,3),(5,3),(6,0),(7,1),(8,3),(9,3),(10,3)] ?_;refine pf ?_;refine bf (v:=?_) rfl (by rfl) (λV=>?_) ?_;rotate_left
   .go_simp;exact dK
   try simp only[PU]
   refine pf ?_
   exact AA
 | lock u r=>
  have aJ:=ae (j5 r (a6.ref r rfl));have cn:(ft r).length<=262144:=by have:=aQ.o;simp[db] at this;omega
  have f:=ae cn;have dc:(strOf (ft r)).size<=262144:=by rw[aM];exact cn
  clear cn;simp only[aE.kind,aE.name] at *;cases u
  .simp only[Kd,if_false] at *;have S:=ae (show ((((pre++(⟨#[108,111,99,107,32]⟩:ByteArray))++strOf (ft r))++(⟨#[59]⟩:ByteArray))++(⟨#[10]⟩:ByteArray))=strOf (h6 t (b.list.take (k+1))) by
    rw[i.o,E.o,<-b1.o];rw[show (⟨#[108,111,99,107,32]⟩:ByteArray)=strOf [108,111,99,107,32] from rfl];rw[show (⟨#[59]⟩:ByteArray)=strOf [59] from rfl];rw[show (⟨#[10]⟩:ByteArray)=strOf [10] from rfl];rw[ag,ag,ag,ag,ag];simp[db])
   exact At
  .simp only[if_true] at *;have S:=ae (show ((((pre++(⟨#[117,110,108,111,99,107,32]⟩:ByteArray))++strOf (ft r))++(⟨#[59]⟩:ByteArray))++(⟨#[10]⟩:ByteArray))=strOf (h6 t (b.list.take (k+1))) by
    rw[i.o,E.o,<-b1.o];rw[show (⟨#[117,110,108,111,99,107,32]⟩:ByteArray)=strOf [117,110,108,111,99,107,32] from rfl];rw[show (⟨#[59]⟩:ByteArray)=strOf [59] from rfl];rw[show (⟨#[10]⟩:ByteArray)=strOf [10] from rfl];rw[ag,ag,ag,ag,ag];simp[db])
   exact At
 | fL e th=>
  obtain⟨N,d,hx⟩:=a6.expr e rfl;have aJ:=ae (ja N d e hx);have cn:(bO e).length<=262144:=by have:=aQ.o;simp[db] at this;omega
  have aW:(cu (t+1) th).length<=262144:=by have:=aQ.o;simp[db] at this;unfold cu;omega
  obtain⟨f,I⟩:=aI cn aW;have dc:(strOf (bO e)).size<=262144:=by rw[aM];exact cn
  have z:(strOf (cu (t+1) th)).size<=262144:=by rw[aM];exact aW
  have x:=ae (show T++⟨#[9]⟩=strOf (List.replicate (t+1) 9) by rw[<-b1.o,show (⟨#[9]⟩:ByteArray)=strOf [9] from rfl,ag,List.replicate_succ']);have J:=ae (show t+1+th.num<=1000000 by
   have ac:=y.o;have ap:=et b;have aD:=bW.o;rcases a6.GN with h|h
   .simp only[aE.th] at h;omega
   .simp only[aE.th] at h;subst h;simp only[an.num];omega)
  clear cn hx aW;simp only[aE.kind,aE.name] at *;obtain rfl:n3=0:=by have:=aZ.1;simpa[aE.el,dw] using this.symm
  have S:=ae (show (((((((pre++(⟨#[119,104,105,108,101,32]⟩:ByteArray))++strOf (bO e))++(⟨#[32,123,10]⟩:ByteArray))++strOf (cu (t+1) th))++T)++(⟨#[125]⟩:ByteArray))++(⟨#[10]⟩:ByteArray))=strOf (h6 t (b.list.take (k+1))) by
   rw[i.o,E.o,<-b1.o];rw[show (⟨#[119,104,105,108,101,32]⟩:ByteArray)=strOf [119,104,105,108,101,32] from rfl];rw[show (⟨#[32,123,10]⟩:ByteArray)=strOf [32,123,10] from rfl];rw[show (⟨#[125]⟩:ByteArray)=strOf [125] from rfl];rw[show (⟨#[10]⟩:ByteArray)=strOf [10] from rfl];rw[ag,ag,ag,ag,ag,ag,ag,ag];simp[db,cu])
  exact Aj
 | ite e th el=>
  obtain⟨N,d,hx⟩:=a6.expr e rfl;have aJ:=ae (ja N d e hx);have cn:(bO e).length<=262144:=by have:=aQ.o;simp[db] at this;omega
  have aW:(cu (t+1) th).length<=262144:=by have:=aQ.o;simp[db] at this;unfold cu;omega
  obtain⟨f,I⟩:=aI cn aW;have dc:(strOf (bO e)).size<=262144:=by rw[aM];exact cn
  have z:(strOf (cu (t+1) th)).size<=262144:=by rw[aM];exact aW
  have x:=ae (show T++⟨#[9]⟩=strOf (List.replicate (t+1) 9) by rw[<-b1.o,show (⟨#[9]⟩:ByteArray)=strOf [9] from rfl,ag,List.replicate_succ']);have J:=ae (show t+1+th.num<=1000000 by
   have ac:=y.o;have ap:=et b;have aD:=bW.o;rcases a6.GN with h|h
   .simp only[aE.th] at h;omega
   .simp only[aE.th] at h;subst h;simp only[an.num];omega)
  clear cn hx aW;simp only[aE.kind,aE.name] at *;have G:=ae aZ.1;by_cases dL:n3=0
  .subst dL;have j:=ae (show el.isNil=true by have ac:=G.o;simp only[aE.el,cD,JM] at ac;cases el<;>first|rfl|simp[an.list] at ac);have S:=ae (show (((((((pre++(⟨#[105,102,32]⟩:ByteArray))++strOf (bO e))++(⟨#[32,123,10]⟩:ByteArray))++strOf (cu (t+1) th))++T)++(⟨#[125]⟩:ByteArray))++(⟨#[10]⟩:ByteArray))=strOf (h6 t (b.list.take (k+1))) by
    rw[i.o,E.o,<-b1.o];rw[show (⟨#[105,102,32]⟩:ByteArray)=strOf [105,102,32] from rfl];rw[show (⟨#[32,123,10]⟩:ByteArray)=strOf [32,123,10] from rfl];rw[show (⟨#[125]⟩:ByteArray)=strOf [125] from rfl];rw[show (⟨#[10]⟩:ByteArray)=strOf [10] from rfl];rw[ag,ag,ag,ag,ag,ag,ag,ag];simp[db,cu,j.o])
   exact Aj
  .have j:=ae (show el.isNil=false by have ac:=G.o;simp only[aE.el,cD,JM] at ac;cases el<;>first|rfl|(simp[an.list] at ac;omega));have bZ:(cu (t+1) el).length<=262144:=by have:=aQ.o;simp[db,j.o] at this;unfold cu;omega
   have Q:=ae bZ;have am:(strOf (cu (t+1) el)).size<=262144:=by rw[aM];exact bZ
   have cb:=ae (show t+1+el.num<=1000000 by
    have ac:=y.o;have ap:=et b;have aD:=bW.o;rcases a6.GM with h|h
    .simp only[aE.el] at h;omega
    .simp only[aE.el] at h;subst h;simp only[an.num];omega)
   have cw:0<n3:=ad;clear bZ;have S:=ae (show (((((((((((pre++(⟨#[105,102,32]⟩:ByteArray))++strOf (bO e))++(⟨#[32,123,10]⟩:ByteArray))++strOf (cu (t+1) th))++T)++(⟨#[125]⟩:ByteArray))++(⟨#[32,101,108,115,101,32,123,10]⟩:ByteArray))++strOf (cu (t+1) el))++T)++(⟨#[125]⟩:ByteArray))++(⟨#[10]⟩:ByteArray))=strOf (h6 t (b.list.take (k+1))) by
    rw[i.o,E.o,<-b1.o];rw[show (⟨#[105,102,32]⟩:ByteArray)=strOf [105,102,32] from rfl];rw[show (⟨#[32,123,10]⟩:ByteArray)=strOf [32,123,10] from rfl];rw[show (⟨#[125]⟩:ByteArray)=strOf [125] from rfl];rw[show (⟨#[32,101,108,115,101,32,123,10]⟩:ByteArray)=strOf [32,101,108,115,101,32,123,10] from rfl];rw[show (⟨#[10]⟩:ByteArray)=strOf [10] from rfl];rw[ag,ag,ag,ag,ag,ag,ag,ag,ag,ag,ag,ag];simp[db,cu,j.o])
   go_wp2;refine fj (λ_=>False) [(0,3),(1,3),(2,3),(3,3),(4,0),(8,3),(9,0),(10,3),(11,3),(14,3),(5,1),(6,3),(7,3),(12,2),(13,3),(15,3),(16,3),(17,3)] ?_
   iterate 2 refine pf ?_
   refine bf (v:=?_) rfl (by rfl) (λV=>?_) ?_;rotate_left
   .go_simp;exact dK
   try simp only[PU]
   refine pf ?_;refine ph ?_;refine pf ?_;refine ph ?_;refine pf ?_;refine bf (v:=?_) rfl (by rfl) (λV=>?_) ?_;rotate_left
   .go_simp;exact dK
   try simp only[PU]
   refine pf ?_;refine aP rfl (λK hK=>?_);go_simp;refine(aJ.o _ _ _ _ _ _ _ (D.on bl.o (Fr.ext Kf.drew)) f.o).mono ?_;rintro e aL ⟨rfl,L⟩;refine gu hK (L) ?_;clear hK K;refine bf (v:=?_) rfl (by rfl) (λV=>?_) ?_;rotate_left
   .go_simp;exact dK
   try simp only[PU]
   refine bf (v:=?_) rfl (by rfl) (λV=>?_) ?_;rotate_left
   .go_simp;exact dK
   try simp only[PU]
   refine az rfl (λK hK=>?_);go_simp;rw[x.o];refine((show gI th from a6.th) (t+1) bg n2 c2 _ J.o (aa.on (Fr.ext (Fr.aL L))) I.o).mono ?_;rintro e aV ⟨rfl,H⟩;refine eC hK ?_;clear hK K;refine bf (v:=?_) rfl (by rfl) (λV=>?_) ?_;rotate_left
   .go_simp;exact dK
   try simp only[PU]
   refine bf (v:=?_) rfl (by rfl) (λV=>?_) ?_;rotate_left
   .go_simp;exact dK
   try simp only[PU]
   refine bf (v:=?_) rfl (by rfl) (λV=>?_) ?_;rotate_left
   .go_simp;exact dK
   try simp only[PU]
   refine pf ?_;refine aG ?_;have bs:=ae ((Fr.aL L).trans H);obtain⟨v0,a7⟩:=Fr.xC bs.o;clear L H;have c7:decide ((n3:Int) > 0)=true:=by simp;omega
   go_wp2_with(fail);rw[x.o];refine((show gI el from a6.el) (t+1) bU n3 c3 _ cb.o (aZ.on (Fr.ext bs.o)) Q.o).mono ?_;rintro e bV ⟨rfl,b6⟩;have aT:=ae (bs.trans b6);clear b6;go_wp2;go_roundw
   case rel=>exact⟨k+1,ad,by go_num,by rw[<-S.o],bd.trans (Y.trans aT.o)⟩
   case measure=>exact aU
 | ret=>
  simp only[aE.kind,aE.name] at *;have S:=ae (show ((pre++(⟨#[114,101,116,117,114,110,59]⟩:ByteArray))++(⟨#[10]⟩:ByteArray))=strOf (h6 t (b.list.take (k+1))) by
   rw[i.o,E.o,<-b1.o];rw[show (⟨#[114,101,116,117,114,110,59]⟩:ByteArray)=strOf [114,101,116,117,114,110,59] from rfl];rw[show (⟨#[10]⟩:ByteArray)=strOf [10] from rfl];rw[ag,ag,ag];simp[db])
  have bs:=ae (Fr.refl (λ_=>False) W);exact vH
 ):p:=h
end A4
open A4 in
theorem uu(b:an)(R:∀s∈b.list,tm s b.num):gI b:=by
 intro t A n c w rV hs hlen;have hl:b.list.length=n:=by rw[<-hs.1,cD,JM]
 have hn:n<=1000000:=by have:=et b;omega
 have m:t<=1000000:=ad;have ak:(strOf (List.replicate t 9)).size<=1000000:=by rw[aM,List.length_replicate];exact m
 rw[cD] at hs;rw[er] at hlen ⊢;obtain⟨bW,bF,ax⟩:=eS hl hs R;have l:=ae (show (h6 t b.list).length<=262144 from hlen);have y:=ae rV;have ab:=ae (show h6 t (b.list.take n)=(b.list.map (db t)).flatten by rw[<-hl,List.take_length];rfl);clear hs R hlen hl rV m;generalize hT:strOf (List.replicate t 9)=T at *;have b1:=ae hT;clear hT;go_enter func135,ntmps135;go_wp2;go_loopw [5,6] (λsv aX wr=>∃k:Nat,k<=n/\aX=.int .i64 k/\sv=.string (strOf (h6 t (b.list.take k)))/\Ext w wr) (λ_ aX _=>n - (intOf aX).toNat)
 case atStart=>exact⟨0,ad,rfl,rfl,Kf⟩
 case round=>
  obtain⟨k,aj,rfl,rfl,ar⟩:=hrel;have bd:=ae ar;clear ar;have bi:(strOf (h6 t (b.list.take k))).size<=262144:=by
   rw[aM];exact JZ (vP t _ k) l.o
  by_cases aq:k<n
  .obtain⟨bb,o,s,cs,rfl,O,ch,dI,a8,Z⟩:=(bF.on (Fr.ext bd.o)).iG mh aq;have aN:bb<wr.heap.size:=O;have i:=ae (wW (t:=t) ch);have a6:=ae (ax.o s (JL ch));have q:(db t s).length<=262144:=by
    have ac:=vP t b.list (k+1);rw[i.o] at ac;have ap:=l.o;simp at ac;omega
   have aQ:=ae q;obtain⟨eo,en,es,EA,em,ec,rs,cq,b5,rc,bz,n1,c1,bg,n2,c2,bU,n3,c3,rfl,X⟩:=mC dI;exact tz
  .obtain rfl:k=n:=ad;go_wp2;go_ret;exact⟨ret_str (by rw[ab.o]),bd.o⟩
end Go.Proofs.YtnigabjngpnbiaaGreat
