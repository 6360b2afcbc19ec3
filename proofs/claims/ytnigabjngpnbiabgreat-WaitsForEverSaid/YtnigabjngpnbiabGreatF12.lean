/- Part 12 of the proof. No condition of its own. -/
import Derived.Test.YtnigabjngpnbiabGreatF11
namespace Go.Proofs.YtnigabjngpnbiabGreat
open Go.RowKit Go.Proofs.Tryz
set_option maxRecDepth 1000000
set_option maxHeartbeats 25600000
set_option linter.unusedVariables false
variable{k:Nat}{p:Prop}{α:Type}{r:eY}
theorem al.EI{C:al->Prop}(f:∀b:al,(∀s∈b.list,C s.th/\C s.el)->C b):∀b:al,C b:=by
 have c:C .nil:=f .nil λs hs=>by simp[al.list] at hs
 have fin:∀b:al,(∀s∈b.list,C s.th/\C s.el)->C b/\∀s∈b.list,C s.th/\C s.el:=λb h=>⟨f b h,h⟩
 suffices h:∀b:al,C b/\∀s∈b.list,C s.th/\C s.el from λb=>(h b).1
 intro b
 induction b with
 | nil=>exact fin _ λs hs=>by simp[al.list] at hs
 | set v n e rest aq=>
  exact yq
 | call g n aY rest aq=>
  exact yq
 | lock u r rest aq=>
  exact yq
 | ite e th el rest j o aq=>
  refine fin _ λs hs=>?_;rcases Nk.1 hs with rfl|hs
  .exact⟨j.1,o.1⟩
  .exact aq.2 s hs
 | gM e th rest j aq=>
  refine fin _ λs hs=>?_;rcases Nk.1 hs with rfl|hs
  .exact⟨j.1,c⟩
  .exact aq.2 s hs
 | ret rest aq=>
  exact yq
theorem iU:∀(b:al) (s:aB),s∈b.list->s.th.num+s.el.num<b.num
 | .nil,s,h=>by simp[al.list] at h
 | .set v n e rest,s,h=>by
  rcases Nk.1 h with rfl|h
  .simp[aB.th,aB.el,al.num]
  .have:=iU rest s h;simp only[al.num];omega
 | .call g n aY rest,s,h=>by
  rcases Nk.1 h with rfl|h
  .simp[aB.th,aB.el,al.num]
  .have:=iU rest s h;simp only[al.num];omega
 | .lock u r rest,s,h=>by
  rcases Nk.1 h with rfl|h
  .simp[aB.th,aB.el,al.num]
  .have:=iU rest s h;simp only[al.num];omega
 | .ite e th el rest,s,h=>by
  rcases Nk.1 h with rfl|h
  .simp only[aB.th,aB.el,al.num];omega
  .have:=iU rest s h;simp only[al.num];omega
 | .gM e th rest,s,h=>by
  rcases Nk.1 h with rfl|h
  .simp only[aB.th,aB.el,al.num];omega
  .have:=iU rest s h;simp only[al.num];omega
 | .ret rest,s,h=>by
  rcases Nk.1 h with rfl|h
  .simp[aB.th,aB.el,al.num]
  .have:=iU rest s h;simp only[al.num];omega
def xv(e:VE):Prop:=∃N d,dQ N/\d<=12/\e.src N d
def pa(r:eY):Prop:=bB r.name.data.toList=true/\∀e,r.idx=some e->xv e
def vp:dq->Prop
 | .mx r=>pa r
 | .ex e=>xv e
def gR:Nat->al->Prop
 | _,.nil=>True
 | d,.set _ n e rest=>bB n.data.toList=true/\xv e/\gR d rest
 | d,.call _ n aY rest=>(bB n.data.toList=true/\(∀a∈aY,vp a)/\aY.length<=1000)/\gR d rest
 | d,.lock _ r rest=>pa r/\gR d rest
 | 0,.ite ..=>False
 | 0,.gM ..=>False
 | d+1,.ite e th el rest=>xv e/\gR d th/\gR d el/\gR (d+1) rest
 | d+1,.gM e th rest=>xv e/\gR d th/\gR (d+1) rest
 | d,.ret rest=>gR d rest
def Lw(d:Nat):aB->Prop
 | .set _ n e=>bB n.data.toList=true/\xv e
 | .call _ n aY=>bB n.data.toList=true/\(∀a∈aY,vp a)/\aY.length<=1000
 | .lock _ r=>pa r
 | .ite e th el=>xv e/\∃k,d=k+1/\gR k th/\gR k el
 | .gM e th=>xv e/\∃k,d=k+1/\gR k th
 | .ret=>True
theorem g9:∀(b:al) (d:Nat),gR d b->∀s∈b.list,Lw d s
 | .nil,d,_,s,hs=>by simp[al.list] at hs
 | .set v n e rest,d,h,s,hs=>by
  have q:bB n.data.toList=true/\xv e/\gR d rest:=by cases d<;>exact h
  rcases Nk.1 hs with rfl|hs
  .exact⟨q.1,q.2.1⟩
  .exact g9 rest d q.2.2 s hs
 | .call g n aY rest,d,h,s,hs=>by
  have q:(bB n.data.toList=true/\(∀a∈aY,vp a)/\aY.length<=1000)/\gR d rest:=by cases d<;>exact h
  rcases Nk.1 hs with rfl|hs
  .exact q.1
  .exact g9 rest d q.2 s hs
 | .lock u r rest,d,h,s,hs=>by
  have q:pa r/\gR d rest:=by cases d<;>exact h
  rcases Nk.1 hs with rfl|hs
  .exact q.1
  .exact g9 rest d q.2 s hs
 | .ite e th el rest,0,h,s,hs=>h.elim
 | .gM e th rest,0,h,s,hs=>h.elim
 | .ite e th el rest,d+1,h,s,hs=>by
  rcases Nk.1 hs with rfl|hs
  .exact⟨h.1,d,rfl,h.2.1,h.2.2.1⟩
  .exact g9 rest (d+1) h.2.2.2 s hs
 | .gM e th rest,d+1,h,s,hs=>by
  rcases Nk.1 hs with rfl|hs
  .exact⟨h.1,d,rfl,h.2.1⟩
  .exact g9 rest (d+1) h.2.2 s hs
 | .ret rest,d,h,s,hs=>by
  have q:gR d rest:=by cases d<;>exact h
  rcases Nk.1 hs with rfl|hs
  .trivial
  .exact g9 rest d q s hs
theorem pa.src(h:pa r):F4 r:=λe he=>by
 obtain⟨N,d,_,_,hs⟩:=h.2 e he;exact⟨N,d,hs⟩
theorem vp.src{a:dq}(h:vp a):HF a:=by
 cases a with
 | mx r=>exact pa.src h
 | ex e=>
  obtain⟨N,d,_,_,hs⟩:=h;exact⟨N,d,hs⟩
theorem xv.src{e:VE}(h:xv e):∃N d,e.src N d:=by
 obtain⟨N,d,_,_,hs⟩:=h;exact⟨N,d,hs⟩
theorem jD:∀(b:al) (d:Nat),gR d b->oh b
 | .nil,_,_=>trivial
 | .set v n e rest,d,h=>by
  have q:bB n.data.toList=true/\xv e/\gR d rest:=by cases d<;>exact h
  exact⟨q.2.1.src,jD rest d q.2.2⟩
 | .call g n aY rest,d,h=>by
  have q:(bB n.data.toList=true/\(∀a∈aY,vp a)/\aY.length<=1000)/\gR d rest:=by cases d<;>exact h
  exact⟨⟨λa bg=>(q.1.2.1 a bg).src,q.1.2.2⟩,jD rest d q.2⟩
 | .lock u r rest,d,h=>by
  have q:pa r/\gR d rest:=by cases d<;>exact h
  exact⟨q.1.src,jD rest d q.2⟩
 | .ite e th el rest,0,h=>h.elim
 | .gM e th rest,0,h=>h.elim
 | .ite e th el rest,d+1,h=>⟨h.1.src,jD th d h.2.1,jD el d h.2.2.1,jD rest (d+1) h.2.2.2⟩
 | .gM e th rest,d+1,h=>⟨h.1.src,jD th d h.2.1,jD rest (d+1) h.2.2⟩
 | .ret rest,d,h=>by
  have q:gR d rest:=by cases d<;>exact h
  exact jD rest d q
theorem Gk{G:Env}(hG:ov G){V:NI}(hV:dQ V)(h:rI G V r):pa r:=by
 rcases h with⟨m,hm,hn,ac,az⟩|⟨hp,aN⟩
 .refine⟨by rw[<-hn];exact hG.af m hm,λe he=>?_⟩;by_cases hs:0<m.size
  .obtain⟨x,hx,aw⟩:=ac hs;rw[hx] at he;injection he with he;subst he;exact⟨V,2,hV,ad,aw⟩
  .rw[az hs] at he;cases he
 .refine⟨hG.params _ hp,λe he=>?_⟩;rw[aN] at he;cases he
theorem zh{G:Env}(hG:ov G){V:NI}(hV:dQ V):∀(ps:List (ByteArray×Bool)) (aY:List dq),ix G V ps aY->(∀a∈aY,vp a)/\aY.length=ps.length
 | [],[],_=>⟨λa h=>by simp at h,rfl⟩
 | p::ps,a::aY,h=>by
  obtain⟨j,o⟩:=zh hG hV ps aY h.2;refine⟨λx hx=>?_,by simp[o]⟩;rcases Nk.1 hx with rfl|hx
  .cases x with
   | mx r=>exact Gk hG hV h.1.2
   | ex e=>exact⟨V,2,hV,ad,h.1.2⟩
  .exact j x hx
 | [],_::_,h=>h.elim
 | _::_,[],h=>h.elim
theorem kK{G:Env}(hG:ov G):∀(b:al) (d:Nat) (V T:NI),dQ V->eX G d V T b->gR d b
 | .nil,d,V,T,hV,h=>by cases d<;>trivial
 | .set true n e rest,d,V,T,hV,h=>by
  have q:bB n.data.toList=true/\n∉T/\e.src V 2/\eX G d (V++[n]) (T++[n]) rest:=by cases d<;>exact h
  have aq:=kK hG rest d _ _ (km hV q.1) q.2.2.2;have r:bB n.data.toList=true/\xv e/\gR d rest:=⟨q.1,⟨V,2,hV,ad,q.2.2.1⟩,aq⟩
  cases d<;>exact r
 | .set false n e rest,d,V,T,hV,h=>by
  have q:n∈V/\e.src V 2/\eX G d V T rest:=by cases d<;>exact h
  have aq:=kK hG rest d _ _ hV q.2.2;have r:bB n.data.toList=true/\xv e/\gR d rest:=⟨hV n q.1,⟨V,2,hV,ad,q.2.1⟩,aq⟩
  cases d<;>exact r
 | .call g n aY rest,d,V,T,hV,h=>by
  have q:(∃ps,(n,ps)∈G.funcs/\ix G V ps aY)/\eX G d V T rest:=by cases d<;>exact h
  have aq:=kK hG rest d _ _ hV q.2;obtain⟨ps,cc,aI⟩:=q.1;obtain⟨i,y⟩:=zh hG hV ps aY aI;have J:=hG.funcs _ cc;have hle:aY.length<=1000:=by have:=J.2;simp only[] at this;omega
  have r:(bB n.data.toList=true/\(∀a∈aY,vp a)/\aY.length<=1000)/\gR d rest:=⟨⟨J.1,i,hle⟩,aq⟩
  cases d<;>exact r
 | .lock u r rest,d,V,T,hV,h=>by
  have q:rI G V r/\eX G d V T rest:=by cases d<;>exact h
  have aq:=kK hG rest d _ _ hV q.2;have r:pa r/\gR d rest:=⟨Gk hG hV q.1,aq⟩
  cases d<;>exact r
 | .ite e th el rest,0,V,T,hV,h=>h.elim
 | .gM e th rest,0,V,T,hV,h=>h.elim
 | .ite e th el rest,d+1,V,T,hV,h=>⟨⟨V,2,hV,ad,h.1⟩,kK hG th d V T hV h.2.1,kK hG el d V T hV h.2.2.1,kK hG rest (d+1) V T hV h.2.2.2⟩
 | .gM e th rest,d+1,V,T,hV,h=>⟨⟨V,2,hV,ad,h.1⟩,kK hG th d V T hV h.2.1,kK hG rest (d+1) V T hV h.2.2⟩
 | .ret rest,d,V,T,hV,h=>by
  have q:eX G d V T rest:=by cases d<;>exact h
  have aq:=kK hG rest d _ _ hV q;cases d<;>exact aq
def ih(g:ByteArray×Int):List UInt8:=aV (h5 g)
def kG(m:bM):List UInt8:=aV (h6 m)
def kE(f:aI):List UInt8:=aV (h4 f)
def hO(l:List (ByteArray×Bool)):List UInt8:=aV (ei (l.map g3))
theorem E9(g:ByteArray×Int):ih g=[118,97,114,32]++(g.1.data.toList++((if g.2=0 then [] else [32,61,32]++aV (h7 g.2))++[59,10])):=by
 unfold ih h5;split
 .simp[aV,Atom.bytes,kw]
 .simp only[a1,bh,Nj];simp[aV,Atom.bytes,kw]
theorem Fq(m:bM):kG m=(if m.re then [114] else [])++([109,117,116,101,120,32]++(m.name.data.toList++((if 0<m.size then [91]++(aV (h7 m.size)++[93]) else [])++[59,10]))):=by
 unfold kG h6;by_cases h:0<m.size
 .cases m.re<;>simp[h,aV,Atom.bytes,kw,gh]
 .cases m.re<;>simp[h,aV,Atom.bytes,kw,gh]
theorem q0{l:List (ByteArray×Bool)}{q:ByteArray×Bool}(h:l[k]?=some q):hO (l.take (k+1))=hO (l.take k)++((if 0<k then [44,32] else [])++((if q.2 then [109,117,116,101,120,32] else [])++q.1.data.toList)):=by
 have aj:k<l.length:=(List.getElem?_eq_some_iff.1 h).1;have bv:aV (g3 q)=(if q.2 then [109,117,116,101,120,32] else [])++q.1.data.toList:=by
  unfold g3;split<;>simp[aV,Atom.bytes,kw,gh]
 unfold hO;rw[List.take_add_one,h,Na];show aV (ei (List.map g3 (List.take k l)++[g3 q]))=_
 rw[my];by_cases h0:0<k
 .rw[if_neg (by intro e;have:=congrArg List.length e;simp only[M5,List.length_take,Nn] at this;omega),if_pos h0,bh,a1,a1,bv];simp[Atom.bytes]
 .obtain rfl:k=0:=ad;simp[ei,aV,<-bv]
theorem EY(f:aI):kE f=[102,117,110,99,32]++(f.name.data.toList++([40]++(hO f.params++([41,32,123,10]++(cJ 1 f.body++[125,10]))))):=by
 unfold kE h4 hO cJ;simp only[a1,bh];simp[aV,Atom.bytes,kw]
theorem ml(f:α->List Atom)(l:List α):aV (l.flatMap f)=(l.map λx=>aV (f x)).flatten:=by
 induction l with
 | nil=>rfl
 | cons a l aq=>rw[No,bh,aq];simp
def fD{α:Type}(f:α->List UInt8)(l:List α):List UInt8:=(l.map f).flatten
theorem nJ{f:α->List UInt8}{l:List α}{x:α}(h:l[k]?=some x):fD f (l.take (k+1))=fD f (l.take k)++f x:=by
 unfold fD;rw[List.take_add_one,h,Na,List.flatten_append];simp
theorem lh(f:α->List UInt8)(l:List α)(k:Nat):(fD f (l.take k)).length<=(fD f l).length:=by
 conv=>rhs;rw[<-List.take_append_drop k l]
 unfold fD;rw[Na,List.flatten_append,M3];omega
theorem sH(p:bN):aV (fS p)=fD ih p.globals++(fD kG p.af++fD kE p.funcs):=by
 unfold fS;rw[bh,bh,ml,ml,ml];rfl
def ji(t:Nat)(l:List aB):List UInt8:=(l.map (dD t)).flatten
theorem zq{t:Nat}{l:List aB}{s:aB}(h:l[k]?=some s):ji t (l.take (k+1))=ji t (l.take k)++dD t s:=by
 unfold ji;rw[List.take_add_one,h,Na,List.flatten_append];simp
theorem yy(t:Nat)(l:List aB)(k:Nat):(ji t (l.take k)).length<=(ji t l).length:=by
 conv=>rhs;rw[<-List.take_append_drop k l]
 unfold ji;rw[Na,List.flatten_append,M3];omega
theorem fh:∀b:al,b.list.length<=b.num
 | .nil=>MU _
 | .set v n e rest=>by have:=fh rest;simp[al.list,al.num];omega
 | .call g n aY rest=>by have:=fh rest;simp[al.list,al.num];omega
 | .lock u r rest=>by have:=fh rest;simp[al.list,al.num];omega
 | .ite e th el rest=>by have:=fh rest;simp[al.list,al.num];omega
 | .gM e th rest=>by have:=fh rest;simp[al.list,al.num];omega
 | .ret rest=>by have:=fh rest;simp[al.list,al.num];omega
namespace Dh
theorem Bg(h:p:=by
 exact CM
 ):p:=h
theorem wG(h:p:=by
 have P:=ae I;clear Z dQ I cf m bu O;go_upto_region 7 with(fail);generalize be:World.alloc wr _=W;have R:=aX be;have aT:=aL be;obtain⟨bL,l⟩:=aJ aT R;have a6:=ae (D.on P.expr (Fr.ext R));have ah:=ae (D.on P.ref (Fr.ext R));have U:=ae (P.args.on (Fr.ext R));have Y:=ae (P.th.on (Fr.ext R));have bz:=ae (P.el.on (Fr.ext R));obtain⟨a0,ak,af⟩:=aT.two;clear be R aT d0 d1 d2 d3 d4 d5 d6 d7 d8 d9 d10 P aZ;have av:(strOf (ji t (b.list.take k))++T).size<=2000000:=by rw[ByteArray.size_append];omega
 generalize E:strOf (ji t (b.list.take k))++T=pre at *;have y:=ae E.symm;clear E aI
 cases s with
 | set v nm e=>
  obtain⟨N,d,hx⟩:=ay.expr e rfl;have aP:=ae (j3 N d e hx);have cC:(b1 e).length<=262144:=by have:=S.o;simp[dD] at this;omega
  have f:=ae cC;have b8:(strOf (b1 e)).size<=262144:=by rw[aC];exact cC
  have z:nm.size<=262144:=by have:=S.o;simp[dD] at this;have az:nm.size=nm.data.toList.length:=rfl;simp at az;omega
  clear cC hx;simp only[aB.kind,aB.name] at *;cases v
  .simp only[Nz,if_false] at *;have aS:=ae (show (((((pre++nm)++(⟨#[32,61,32]⟩:ByteArray))++strOf (b1 e))++(⟨#[59]⟩:ByteArray))++(⟨#[10]⟩:ByteArray))=strOf (ji t (b.list.take (k+1))) by
    rw[i.o,y.o,<-Q.o];rw[show (⟨#[32,61,32]⟩:ByteArray)=strOf [32,61,32] from rfl];rw[show (⟨#[59]⟩:ByteArray)=strOf [59] from rfl];rw[show (⟨#[10]⟩:ByteArray)=strOf [10] from rfl];conv=>lhs;rw[<-dk nm]
    rw[ag,ag,ag,ag,ag,ag];simp[dD])
   go_wp2;refine eJ (λ_=>False) [(0,3),(1,3),(2,0),(3,3),(4,3),(5,3),(6,0),(7,1),(8,3),(9,3),(10,3)] ?_
   iterate 2 refine pf ?_
   refine ph ?_;refine bt (v:=?_) rfl (by rfl) (λV=>?_) ?_;rotate_left
   .go_simp;exact et
   try simp only[PU]
   refine bt (v:=?_) rfl (by rfl) (λV=>?_) ?_;rotate_left
   .go_simp;exact et
   try simp only[PU]
   refine pf ?_;refine ph ?_;refine aE rfl (λK hK=>?_);go_simp;refine(aP.o _ _ _ _ _ _ _ (D.on a6.o (Fr.ext NC.drew)) f.o).mono ?_;exact Bf
  .simp only[if_true] at *;have aS:=ae (show ((((((pre++(⟨#[118,97,114,32]⟩:ByteArray))++nm)++(⟨#[32,61,32]⟩:ByteArray))++strOf (b1 e))++(⟨#[59]⟩:ByteArray))++(⟨#[10]⟩:ByteArray))=strOf (ji t (b.list.take (k+1))) by
    rw[i.o,y.o,<-Q.o];rw[show (⟨#[118,97,114,32]⟩:ByteArray)=strOf [118,97,114,32] from rfl];rw[show (⟨#[32,61,32]⟩:ByteArray)=strOf [32,61,32] from rfl];rw[show (⟨#[59]⟩:ByteArray)=strOf [59] from rfl];rw[show (⟨#[10]⟩:ByteArray)=strOf [10] from rfl];conv=>lhs;rw[<-dk nm]
    rw[ag,ag,ag,ag,ag,ag,ag];simp[dD])
   go_wp2;refine eJ (λ_=>False) [(0,3),(1,3),(2,3),(3,0),(4,3),(5,3),(6,3),(7,0),(8,1),(9,3),(10,3),(11,3)] ?_;refine pf ?_;refine bt (v:=?_) rfl (by rfl) (λV=>?_) ?_;rotate_left
   .go_simp;exact et
   try simp only[PU]
   refine pf ?_;refine ph ?_;refine bt (v:=?_) rfl (by rfl) (λV=>?_) ?_;rotate_left
   .go_simp;exact et
   try simp only[PU]
   refine bt (v:=?_) rfl (by rfl) (λV=>?_) ?_;rotate_left
   .go_simp;exact et
   try simp only[PU]
   refine pf ?_;refine ph ?_;refine aE rfl (λK hK=>?_);go_simp;refine(aP.o _ _ _ _ _ _ _ (D.on a6.o (Fr.ext NC.drew)) f.o).mono ?_
   exact Cz
 | call g nm aY=>
  have aP:=ae (tm aY ay.args);have cC:(ib aY).length<=262144:=by have:=S.o;simp[dD] at this;omega
  have f:=ae cC;have c5:n1<=1000:=by have ac:=U.1;have az:=ay.jo;simp[aB.args] at ac az;omega
  have ab:=ae c5;have b8:(strOf (ib aY)).size<=262144:=by rw[aC];exact cC
  have z:nm.size<=262144:=by have:=S.o;simp[dD] at this;have az:nm.size=nm.data.toList.length:=rfl;simp at az;omega
  clear cC c5;simp only[aB.kind,aB.name] at *;cases g
  .simp only[Nz,if_false] at *;have aS:=ae (show ((((pre++nm)++strOf (ib aY))++(⟨#[59]⟩:ByteArray))++(⟨#[10]⟩:ByteArray))=strOf (ji t (b.list.take (k+1))) by
    rw[i.o,y.o,<-Q.o];rw[show (⟨#[59]⟩:ByteArray)=strOf [59] from rfl];rw[show (⟨#[10]⟩:ByteArray)=strOf [10] from rfl];conv=>lhs;rw[<-dk nm]
    rw[ag,ag,ag,ag,ag];simp[dD])
   go_wp2;refine eJ (λ_=>False) [(0,3),(1,3),(2,0),(3,3),(4,3),(5,0),(6,1),(7,3),(8,3),(9,3)] ?_
   iterate 2 refine pf ?_
   exact CL
  .simp only[if_true] at *;have aS:=ae (show (((((pre++(⟨#[103,111,32]⟩:ByteArray))++nm)++strOf (ib aY))++(⟨#[59]⟩:ByteArray))++(⟨#[10]⟩:ByteArray))=strOf (ji t (b.list.take (k+1))) by
    rw[i.o,y.o,<-Q.o];rw[show (⟨#[103,111,32]⟩:ByteArray)=strOf [103,111,32] from rfl];rw[show (⟨#[59]⟩:ByteArray)=strOf [59] from rfl];rw[show (⟨#[10]⟩:ByteArray)=strOf [10] from rfl];conv=>lhs;rw[<-dk nm]
    rw[ag,ag,ag,ag,ag,ag];simp[dD])
   go_wp2;refine eJ (λ_=>False) [(0,3),(1,3),(2,3),(3,0),(4,3),(5,3),(6,0),(7,1),(8,3),(9,3),(10,3)] ?_;refine pf ?_;refine bt (v:=?_) rfl (by rfl) (λV=>?_) ?_;rotate_left
   .go_simp;exact et
   try simp only[PU]
   refine pf ?_
   exact CL
 | lock u r=>
  have aP:=ae (k4 r (ay.ref r rfl));have cC:(gq r).length<=262144:=by have:=S.o;simp[dD] at this;omega
  have f:=ae cC;have b8:(strOf (gq r)).size<=262144:=by rw[aC];exact cC
  clear cC;simp only[aB.kind,aB.name] at *;cases u
  .simp only[Nz,if_false] at *;have aS:=ae (show ((((pre++(⟨#[108,111,99,107,32]⟩:ByteArray))++strOf (gq r))++(⟨#[59]⟩:ByteArray))++(⟨#[10]⟩:ByteArray))=strOf (ji t (b.list.take (k+1))) by
    rw[i.o,y.o,<-Q.o];rw[show (⟨#[108,111,99,107,32]⟩:ByteArray)=strOf [108,111,99,107,32] from rfl];rw[show (⟨#[59]⟩:ByteArray)=strOf [59] from rfl];rw[show (⟨#[10]⟩:ByteArray)=strOf [10] from rfl];rw[ag,ag,ag,ag,ag];simp[dD])
   exact CG
  .simp only[if_true] at *;have aS:=ae (show ((((pre++(⟨#[117,110,108,111,99,107,32]⟩:ByteArray))++strOf (gq r))++(⟨#[59]⟩:ByteArray))++(⟨#[10]⟩:ByteArray))=strOf (ji t (b.list.take (k+1))) by
    rw[i.o,y.o,<-Q.o];rw[show (⟨#[117,110,108,111,99,107,32]⟩:ByteArray)=strOf [117,110,108,111,99,107,32] from rfl];rw[show (⟨#[59]⟩:ByteArray)=strOf [59] from rfl];rw[show (⟨#[10]⟩:ByteArray)=strOf [10] from rfl];rw[ag,ag,ag,ag,ag];simp[dD])
   exact CG
 | gM e th=>
  obtain⟨N,d,hx⟩:=ay.expr e rfl;have aP:=ae (j3 N d e hx);have cC:(b1 e).length<=262144:=by have:=S.o;simp[dD] at this;omega
  have bK:(cJ (t+1) th).length<=262144:=by have:=S.o;simp[dD] at this;unfold cJ;omega
  obtain⟨f,H⟩:=aJ cC bK;have b8:(strOf (b1 e)).size<=262144:=by rw[aC];exact cC
  have z:(strOf (cJ (t+1) th)).size<=262144:=by rw[aC];exact bK
  have q:=ae (show T++⟨#[9]⟩=strOf (List.replicate (t+1) 9) by rw[<-Q.o,show (⟨#[9]⟩:ByteArray)=strOf [9] from rfl,ag,List.replicate_succ']);have J:=ae (show t+1+th.num<=1000000 by
   have ac:=aa.o;have az:=fh b;have aV:=bT.o;rcases ay.Jy with h|h
   .simp only[aB.th] at h;omega
   .simp only[aB.th] at h;subst h;simp only[al.num];omega)
  clear cC hx bK;simp only[aB.kind,aB.name] at *;obtain rfl:n3=0:=by have:=bz.1;simpa[aB.el,dc] using this.symm
  have aS:=ae (show (((((((pre++(⟨#[119,104,105,108,101,32]⟩:ByteArray))++strOf (b1 e))++(⟨#[32,123,10]⟩:ByteArray))++strOf (cJ (t+1) th))++T)++(⟨#[125]⟩:ByteArray))++(⟨#[10]⟩:ByteArray))=strOf (ji t (b.list.take (k+1))) by
   rw[i.o,y.o,<-Q.o];rw[show (⟨#[119,104,105,108,101,32]⟩:ByteArray)=strOf [119,104,105,108,101,32] from rfl];rw[show (⟨#[32,123,10]⟩:ByteArray)=strOf [32,123,10] from rfl];rw[show (⟨#[125]⟩:ByteArray)=strOf [125] from rfl];rw[show (⟨#[10]⟩:ByteArray)=strOf [10] from rfl];rw[ag,ag,ag,ag,ag,ag,ag,ag];simp[dD,cJ])
  exact Cy
 | ite e th el=>
  obtain⟨N,d,hx⟩:=ay.expr e rfl;have aP:=ae (j3 N d e hx);have cC:(b1 e).length<=262144:=by have:=S.o;simp[dD] at this;omega
  have bK:(cJ (t+1) th).length<=262144:=by have:=S.o;simp[dD] at this;unfold cJ;omega
  obtain⟨f,H⟩:=aJ cC bK;have b8:(strOf (b1 e)).size<=262144:=by rw[aC];exact cC
  have z:(strOf (cJ (t+1) th)).size<=262144:=by rw[aC];exact bK
  have q:=ae (show T++⟨#[9]⟩=strOf (List.replicate (t+1) 9) by rw[<-Q.o,show (⟨#[9]⟩:ByteArray)=strOf [9] from rfl,ag,List.replicate_succ']);have J:=ae (show t+1+th.num<=1000000 by
   have ac:=aa.o;have az:=fh b;have aV:=bT.o;rcases ay.Jy with h|h
   .simp only[aB.th] at h;omega
   .simp only[aB.th] at h;subst h;simp only[al.num];omega)
  clear cC hx bK;simp only[aB.kind,aB.name] at *;have x:=ae bz.1;by_cases dE:n3=0
  .subst dE;have j:=ae (show el.isNil=true by have ac:=x.o;simp only[aB.el,cM,M5] at ac;cases el<;>first|rfl|simp[al.list] at ac);have aS:=ae (show (((((((pre++(⟨#[105,102,32]⟩:ByteArray))++strOf (b1 e))++(⟨#[32,123,10]⟩:ByteArray))++strOf (cJ (t+1) th))++T)++(⟨#[125]⟩:ByteArray))++(⟨#[10]⟩:ByteArray))=strOf (ji t (b.list.take (k+1))) by
    rw[i.o,y.o,<-Q.o];rw[show (⟨#[105,102,32]⟩:ByteArray)=strOf [105,102,32] from rfl];rw[show (⟨#[32,123,10]⟩:ByteArray)=strOf [32,123,10] from rfl];rw[show (⟨#[125]⟩:ByteArray)=strOf [125] from rfl];rw[show (⟨#[10]⟩:ByteArray)=strOf [10] from rfl];rw[ag,ag,ag,ag,ag,ag,ag,ag];simp[dD,cJ,j.o])
   exact Cy
  .have j:=ae (show el.isNil=false by have ac:=x.o;simp only[aB.el,cM,M5] at ac;cases el<;>first|rfl|(simp[al.list] at ac;omega));have cm:(cJ (t+1) el).length<=262144:=by have:=S.o;simp[dD,j.o] at this;unfold cJ;omega
   have ai:=ae cm;have aq:(strOf (cJ (t+1) el)).size<=262144:=by rw[aC];exact cm
   have bE:=ae (show t+1+el.num<=1000000 by
    have ac:=aa.o;have az:=fh b;have aV:=bT.o;rcases ay.Jx with h|h
    .simp only[aB.el] at h;omega
    .simp only[aB.el] at h;subst h;simp only[al.num];omega)
   have cb:0<n3:=ad;clear cm;have aS:=ae (show (((((((((((pre++(⟨#[105,102,32]⟩:ByteArray))++strOf (b1 e))++(⟨#[32,123,10]⟩:ByteArray))++strOf (cJ (t+1) th))++T)++(⟨#[125]⟩:ByteArray))++(⟨#[32,101,108,115,101,32,123,10]⟩:ByteArray))++strOf (cJ (t+1) el))++T)++(⟨#[125]⟩:ByteArray))++(⟨#[10]⟩:ByteArray))=strOf (ji t (b.list.take (k+1))) by
    rw[i.o,y.o,<-Q.o];rw[show (⟨#[105,102,32]⟩:ByteArray)=strOf [105,102,32] from rfl];rw[show (⟨#[32,123,10]⟩:ByteArray)=strOf [32,123,10] from rfl];rw[show (⟨#[125]⟩:ByteArray)=strOf [125] from rfl];rw[show (⟨#[32,101,108,115,101,32,123,10]⟩:ByteArray)=strOf [32,101,108,115,101,32,123,10] from rfl];rw[show (⟨#[10]⟩:ByteArray)=strOf [10] from rfl];rw[ag,ag,ag,ag,ag,ag,ag,ag,ag,ag,ag,ag];simp[dD,cJ,j.o])
   go_wp2;refine eJ (λ_=>False) [(0,3),(1,3),(2,3),(3,3),(4,0),(8,3),(9,0),(10,3),(11,3),(14,3),(5,1),(6,3),(7,3),(12,2),(13,3),(15,3),(16,3),(17,3)] ?_
   iterate 2 refine pf ?_
   refine bt (v:=?_) rfl (by rfl) (λV=>?_) ?_;rotate_left
   .go_simp;exact et
   try simp only[PU]
   refine pf ?_;refine ph ?_;refine pf ?_;refine ph ?_;refine pf ?_;refine bt (v:=?_) rfl (by rfl) (λV=>?_) ?_;rotate_left
   .go_simp;exact et
   try simp only[PU]
   refine pf ?_;refine aE rfl (λK hK=>?_);go_simp;refine(aP.o _ _ _ _ _ _ _ (D.on a6.o (Fr.ext NC.drew)) f.o).mono ?_;rintro e aO ⟨rfl,ar⟩;refine dB hK (ar) ?_;clear hK K;refine bt (v:=?_) rfl (by rfl) (λV=>?_) ?_;rotate_left
   .go_simp;exact et
   try simp only[PU]
   refine bt (v:=?_) rfl (by rfl) (λV=>?_) ?_;rotate_left
   .go_simp;exact et
   try simp only[PU]
   refine au rfl (λK hK=>?_);go_simp;rw[q.o];refine((show h1 th from ay.th) (t+1) A2 n2 c2 _ J.o (Y.on (Fr.ext (Fr.aF ar))) H.o).mono ?_;rintro e aW ⟨rfl,bF⟩;refine dY hK ?_;clear hK K;refine bt (v:=?_) rfl (by rfl) (λV=>?_) ?_;rotate_left
   .go_simp;exact et
   try simp only[PU]
   refine bt (v:=?_) rfl (by rfl) (λV=>?_) ?_;rotate_left
   .go_simp;exact et
   try simp only[PU]
   refine bt (v:=?_) rfl (by rfl) (λV=>?_) ?_;rotate_left
   .go_simp;exact et
   try simp only[PU]
   refine pf ?_;refine aG ?_;have bw:=ae ((Fr.aF ar).trans bF);obtain⟨v0,a1⟩:=Fr.uk bw.o;clear ar bF;have de:decide ((n3:Int) > 0)=true:=by simp;omega
   go_wp2_with(fail);rw[q.o];refine((show h1 el from ay.el) (t+1) cu n3 c3 _ bE.o (bz.on (Fr.ext bw.o)) ai.o).mono ?_;rintro e b6 ⟨rfl,bZ⟩;have a8:=ae (bw.trans bZ);clear bZ;go_wp2;go_roundw
   case rel=>exact⟨k+1,ad,by go_num,by rw[<-aS.o],bk.trans (l.trans a8.o)⟩
   case measure=>exact aH
 | ret=>
  simp only[aB.kind,aB.name] at *;have aS:=ae (show ((pre++(⟨#[114,101,116,117,114,110,59]⟩:ByteArray))++(⟨#[10]⟩:ByteArray))=strOf (ji t (b.list.take (k+1))) by
   rw[i.o,y.o,<-Q.o];rw[show (⟨#[114,101,116,117,114,110,59]⟩:ByteArray)=strOf [114,101,116,117,114,110,59] from rfl];rw[show (⟨#[10]⟩:ByteArray)=strOf [10] from rfl];rw[ag,ag,ag];simp[dD])
  have bw:=ae (Fr.refl (λ_=>False) W);exact ym
 ):p:=h
end Dh
open Dh in
theorem xk(b:al)(M:∀s∈b.list,wu s b.num):h1 b:=by
 intro t A n c w wj hs hlen;have hl:b.list.length=n:=by rw[<-hs.1,cM,M5]
 have hn:n<=1000000:=by have:=fh b;omega
 have G:t<=1000000:=ad;have am:(strOf (List.replicate t 9)).size<=1000000:=by rw[aC,List.length_replicate];exact G
 rw[cM] at hs;rw[ff] at hlen ⊢;obtain⟨bT,bH,ao⟩:=eU hl hs M;have F:=ae (show (ji t b.list).length<=262144 from hlen);have aa:=ae wj;have X:=ae (show ji t (b.list.take n)=(b.list.map (dD t)).flatten by rw[<-hl,List.take_length];rfl);clear hs M hlen hl wj G;generalize hT:strOf (List.replicate t 9)=T at *;have Q:=ae hT;clear hT;go_enter func111,ntmps111;go_wp2;go_loopw [5,6] (λsv L wr=>∃k:Nat,k<=n/\L=.int .i64 k/\sv=.string (strOf (ji t (b.list.take k)))/\Ext w wr) (λ_ L _=>n - (intOf L).toNat)
 case atStart=>exact⟨0,ad,rfl,rfl,NC⟩
 case round=>
  obtain⟨k,aj,rfl,rfl,aF⟩:=hrel;have bk:=ae aF;clear aF;have aI:(strOf (ji t (b.list.take k))).size<=262144:=by
   rw[aC];exact Nl (yy t _ k) F.o
  by_cases ap:k<n
  .obtain⟨bb,o,s,cs,rfl,O,cf,dQ,bu,Z⟩:=(bH.on (Fr.ext bk.o)).g1 nR ap;have aZ:bb<wr:=O;have i:=ae (zq (t:=t) cf);have ay:=ae (ao.o s (M4 cf));have m:(dD t s).length<=262144:=by
    have ac:=yy t b.list (k+1);rw[i.o] at ac;have az:=F.o;simp at ac;omega
   have S:=ae m;obtain⟨eo,en,es,EA,em,ec,rs,cr,b5,rc,cR,n1,c1,A2,n2,c2,cu,n3,c3,rfl,I⟩:=lN dQ;exact wF
  .obtain rfl:k=n:=ad;go_wp2;go_ret;exact⟨ret_str (by rw[X.o]),bk.o⟩
end Go.Proofs.YtnigabjngpnbiabGreat
