/- Part 19 of the proof. No condition of its own. -/
import Derived.Test.YtnigabjngpnbiaaGreatQ10
import Derived.Test.YtnigabjngpnbiaaGreatQ16
namespace Go.Proofs.YtnigabjngpnbiaaGreat
open Go.RowKit Go.Proofs.Tryz
set_option maxRecDepth 1000000
set_option maxHeartbeats 25600000
set_option linter.unusedVariables false
variable{n:ByteArray}{G:Env}{T V:Kk}{l:List aE}{c:List ax}{L d k:Nat}{α:Type}{r:eR}
theorem an.CE{C:an->Prop}(f:∀b:an,(∀s∈b.list,C s.th/\C s.el)->C b):∀b:an,C b:=by
 have c:C .nil:=f .nil λs hs=>by simp[an.list] at hs
 have fin:∀b:an,(∀s∈b.list,C s.th/\C s.el)->C b/\∀s∈b.list,C s.th/\C s.el:=λb h=>⟨f b h,h⟩
 suffices h:∀b:an,C b/\∀s∈b.list,C s.th/\C s.el from λb=>(h b).1
 intro b
 induction b with
 | nil=>exact fin _ λs hs=>by simp[an.list] at hs
 | set v n e rest ab=>
  exact vL
 | call g n aH rest ab=>
  exact vL
 | lock u r rest ab=>
  exact vL
 | ite e th el rest j o ab=>
  refine fin _ λs hs=>?_;rcases JY.1 hs with rfl|hs
  .exact⟨j.1,o.1⟩
  .exact ab.2 s hs
 | fL e th rest j ab=>
  refine fin _ λs hs=>?_;rcases JY.1 hs with rfl|hs
  .exact⟨j.1,c⟩
  .exact ab.2 s hs
 | ret rest ab=>
  exact vL
theorem hW:∀(b:an) (s:aE),s∈b.list->s.th.num+s.el.num<b.num
 | .nil,s,h=>by simp[an.list] at h
 | .set v n e rest,s,h=>by
  rcases JY.1 h with rfl|h
  .simp[aE.th,aE.el,an.num]
  .have:=hW rest s h;simp only[an.num];omega
 | .call g n aH rest,s,h=>by
  rcases JY.1 h with rfl|h
  .simp[aE.th,aE.el,an.num]
  .have:=hW rest s h;simp only[an.num];omega
 | .lock u r rest,s,h=>by
  rcases JY.1 h with rfl|h
  .simp[aE.th,aE.el,an.num]
  .have:=hW rest s h;simp only[an.num];omega
 | .ite e th el rest,s,h=>by
  rcases JY.1 h with rfl|h
  .simp only[aE.th,aE.el,an.num];omega
  .have:=hW rest s h;simp only[an.num];omega
 | .fL e th rest,s,h=>by
  rcases JY.1 h with rfl|h
  .simp only[aE.th,aE.el,an.num];omega
  .have:=hW rest s h;simp only[an.num];omega
 | .ret rest,s,h=>by
  rcases JY.1 h with rfl|h
  .simp[aE.th,aE.el,an.num]
  .have:=hW rest s h;simp only[an.num];omega
def uE(e:VE):Prop:=∃N d,du N/\d<=12/\e.src N d
def nh(r:eR):Prop:=bw r.name.data.toList=true/\∀e,r.idx=some e->uE e
def sE:dh->Prop
 | .mx r=>nh r
 | .ex e=>uE e
def fP:Nat->an->Prop
 | _,.nil=>True
 | d,.set _ n e rest=>bw n.data.toList=true/\uE e/\fP d rest
 | d,.call _ n aH rest=>(bw n.data.toList=true/\(∀a∈aH,sE a)/\aH.length<=1000)/\fP d rest
 | d,.lock _ r rest=>nh r/\fP d rest
 | 0,.ite ..=>False
 | 0,.fL ..=>False
 | d+1,.ite e th el rest=>uE e/\fP d th/\fP d el/\fP (d+1) rest
 | d+1,.fL e th rest=>uE e/\fP d th/\fP (d+1) rest
 | d,.ret rest=>fP d rest
def Iv(d:Nat):aE->Prop
 | .set _ n e=>bw n.data.toList=true/\uE e
 | .call _ n aH=>bw n.data.toList=true/\(∀a∈aH,sE a)/\aH.length<=1000
 | .lock _ r=>nh r
 | .ite e th el=>uE e/\∃k,d=k+1/\fP k th/\fP k el
 | .fL e th=>uE e/\∃k,d=k+1/\fP k th
 | .ret=>True
theorem gf:∀(b:an) (d:Nat),fP d b->∀s∈b.list,Iv d s
 | .nil,d,_,s,hs=>by simp[an.list] at hs
 | .set v n e rest,d,h,s,hs=>by
  have F:bw n.data.toList=true/\uE e/\fP d rest:=by cases d<;>exact h
  rcases JY.1 hs with rfl|hs
  .exact⟨F.1,F.2.1⟩
  .exact gf rest d F.2.2 s hs
 | .call g n aH rest,d,h,s,hs=>by
  have F:(bw n.data.toList=true/\(∀a∈aH,sE a)/\aH.length<=1000)/\fP d rest:=by cases d<;>exact h
  rcases JY.1 hs with rfl|hs
  .exact F.1
  .exact gf rest d F.2 s hs
 | .lock u r rest,d,h,s,hs=>by
  have F:nh r/\fP d rest:=by cases d<;>exact h
  rcases JY.1 hs with rfl|hs
  .exact F.1
  .exact gf rest d F.2 s hs
 | .ite e th el rest,0,h,s,hs=>h.elim
 | .fL e th rest,0,h,s,hs=>h.elim
 | .ite e th el rest,d+1,h,s,hs=>by
  rcases JY.1 hs with rfl|hs
  .exact⟨h.1,d,rfl,h.2.1,h.2.2.1⟩
  .exact gf rest (d+1) h.2.2.2 s hs
 | .fL e th rest,d+1,h,s,hs=>by
  rcases JY.1 hs with rfl|hs
  .exact⟨h.1,d,rfl,h.2.1⟩
  .exact gf rest (d+1) h.2.2 s hs
 | .ret rest,d,h,s,hs=>by
  have F:fP d rest:=by cases d<;>exact h
  rcases JY.1 hs with rfl|hs
  .trivial
  .exact gf rest d F s hs
theorem nh.src(h:nh r):DI r:=λe he=>by
 obtain⟨N,d,_,_,hs⟩:=h.2 e he;exact⟨N,d,hs⟩
theorem sE.src{a:dh}(h:sE a):EX a:=by
 cases a with
 | mx r=>exact nh.src h
 | ex e=>
  obtain⟨N,d,_,_,hs⟩:=h;exact⟨N,d,hs⟩
theorem uE.src{e:VE}(h:uE e):∃N d,e.src N d:=by
 obtain⟨N,d,_,_,hs⟩:=h;exact⟨N,d,hs⟩
theorem iy:∀(b:an) (d:Nat),fP d b->mB b
 | .nil,_,_=>trivial
 | .set v n e rest,d,h=>by
  have F:bw n.data.toList=true/\uE e/\fP d rest:=by cases d<;>exact h
  exact⟨F.2.1.src,iy rest d F.2.2⟩
 | .call g n aH rest,d,h=>by
  have F:(bw n.data.toList=true/\(∀a∈aH,sE a)/\aH.length<=1000)/\fP d rest:=by cases d<;>exact h
  exact⟨⟨λa bE=>(F.1.2.1 a bE).src,F.1.2.2⟩,iy rest d F.2⟩
 | .lock u r rest,d,h=>by
  have F:nh r/\fP d rest:=by cases d<;>exact h
  exact⟨F.1.src,iy rest d F.2⟩
 | .ite e th el rest,0,h=>h.elim
 | .fL e th rest,0,h=>h.elim
 | .ite e th el rest,d+1,h=>⟨h.1.src,iy th d h.2.1,iy el d h.2.2.1,iy rest (d+1) h.2.2.2⟩
 | .fL e th rest,d+1,h=>⟨h.1.src,iy th d h.2.1,iy rest (d+1) h.2.2⟩
 | .ret rest,d,h=>by
  have F:fP d rest:=by cases d<;>exact h
  exact iy rest d F
theorem DQ(hG:mH G)(hV:du V)(h:wL G V r):nh r:=by
 rcases h with⟨m,hm,hn,ac,ap⟩|⟨hp,I⟩
 .refine⟨by rw[<-hn];exact hG.af m hm,λe he=>?_⟩;by_cases hs:0<m.size
  .obtain⟨x,hx,ay⟩:=ac hs;rw[hx] at he;injection he with he;subst he;exact⟨V,2,hV,ad,ay⟩
  .rw[ap hs] at he;cases he
 .refine⟨hG.params _ hp,λe he=>?_⟩;rw[I] at he;cases he
theorem wI{G:Env}(hG:mH G){V:Kk}(hV:du V):∀(ps:List (ByteArray×Bool)) (aH:List dh),lp G V ps aH->(∀a∈aH,sE a)/\aH.length=ps.length
 | [],[],_=>⟨λa h=>by simp at h,rfl⟩
 | p::ps,a::aH,h=>by
  obtain⟨j,o⟩:=wI hG hV ps aH h.2;refine⟨λx hx=>?_,by simp[o]⟩;rcases JY.1 hx with rfl|hx
  .cases x with
   | mx r=>exact DQ hG hV h.1.2
   | ex e=>exact⟨V,2,hV,ad,h.1.2⟩
  .exact j x hx
 | [],_::_,h=>h.elim
 | _::_,[],h=>h.elim
theorem jL{G:Env}(hG:mH G):∀(b:an) (d:Nat) (V T:Kk),du V->gr G d V T b->fP d b
 | .nil,d,V,T,hV,h=>by cases d<;>trivial
 | .set true n e rest,d,V,T,hV,h=>by
  have F:bw n.data.toList=true/\n∉T/\e.src V 2/\gr G d (V++[n]) (T++[n]) rest:=by cases d<;>exact h
  have ab:=jL hG rest d _ _ (jq hV F.1) F.2.2.2;have r:bw n.data.toList=true/\uE e/\fP d rest:=⟨F.1,⟨V,2,hV,ad,F.2.2.1⟩,ab⟩
  cases d<;>exact r
 | .set false n e rest,d,V,T,hV,h=>by
  have F:n∈V/\e.src V 2/\gr G d V T rest:=by cases d<;>exact h
  have ab:=jL hG rest d _ _ hV F.2.2;have r:bw n.data.toList=true/\uE e/\fP d rest:=⟨hV n F.1,⟨V,2,hV,ad,F.2.1⟩,ab⟩
  cases d<;>exact r
 | .call g n aH rest,d,V,T,hV,h=>by
  have F:(∃ps,(n,ps)∈G.funcs/\lp G V ps aH)/\gr G d V T rest:=by cases d<;>exact h
  have ab:=jL hG rest d _ _ hV F.2;obtain⟨ps,b3,aS⟩:=F.1;obtain⟨q,y⟩:=wI hG hV ps aH aS;have aA:=hG.funcs _ b3;have hle:aH.length<=1000:=by have:=aA.2;simp only[] at this;omega
  have r:(bw n.data.toList=true/\(∀a∈aH,sE a)/\aH.length<=1000)/\fP d rest:=⟨⟨aA.1,q,hle⟩,ab⟩
  cases d<;>exact r
 | .lock u r rest,d,V,T,hV,h=>by
  have F:wL G V r/\gr G d V T rest:=by cases d<;>exact h
  have ab:=jL hG rest d _ _ hV F.2;have r:nh r/\fP d rest:=⟨DQ hG hV F.1,ab⟩
  cases d<;>exact r
 | .ite e th el rest,0,V,T,hV,h=>h.elim
 | .fL e th rest,0,V,T,hV,h=>h.elim
 | .ite e th el rest,d+1,V,T,hV,h=>⟨⟨V,2,hV,ad,h.1⟩,jL hG th d V T hV h.2.1,jL hG el d V T hV h.2.2.1,jL hG rest (d+1) V T hV h.2.2.2⟩
 | .fL e th rest,d+1,V,T,hV,h=>⟨⟨V,2,hV,ad,h.1⟩,jL hG th d V T hV h.2.1,jL hG rest (d+1) V T hV h.2.2⟩
 | .ret rest,d,V,T,hV,h=>by
  have F:gr G d V T rest:=by cases d<;>exact h
  have ab:=jL hG rest d _ _ hV F;cases d<;>exact ab
def g0(g:ByteArray×Int):List UInt8:=aQ (gQ g)
def jI(m:bI):List UInt8:=aQ (gR m)
def jH(f:a1):List UInt8:=aQ (gP f)
def gD(l:List (ByteArray×Bool)):List UInt8:=aQ (dE (l.map fW))
theorem C1(g:ByteArray×Int):g0 g=[118,97,114,32]++(g.1.data.toList++((if g.2=0 then [] else [32,61,32]++aQ (gS g.2))++[59,10])):=by
 unfold g0 gQ;split
 .simp[aQ,Atom.bytes,kw]
 .simp only[aZ,a2,JX];simp[aQ,Atom.bytes,kw]
theorem Df(m:bI):jI m=(if m.re then [114] else [])++([109,117,116,101,120,32]++(m.name.data.toList++((if 0<m.size then [91]++(aQ (gS m.size)++[93]) else [])++[59,10]))):=by
 unfold jI gR;by_cases h:0<m.size
 .cases m.re<;>simp[h,aQ,Atom.bytes,kw,fk]
 .cases m.re<;>simp[h,aQ,Atom.bytes,kw,fk]
theorem oT{l:List (ByteArray×Bool)}{q:ByteArray×Bool}(h:l[k]?=some q):gD (l.take (k+1))=gD (l.take k)++((if 0<k then [44,32] else [])++((if q.2 then [109,117,116,101,120,32] else [])++q.1.data.toList)):=by
 have aj:k<l.length:=(List.getElem?_eq_some_iff.1 h).1;have bx:aQ (fW q)=(if q.2 then [109,117,116,101,120,32] else [])++q.1.data.toList:=by
  unfold fW;split<;>simp[aQ,Atom.bytes,kw,fk]
 unfold gD;rw[List.take_add_one,h,JP];show aQ (dE (List.map fW (List.take k l)++[fW q]))=_
 rw[k0];by_cases h0:0<k
 .rw[if_neg (by intro e;have:=congrArg List.length e;simp only[JM,List.length_take,J1] at this;omega),if_pos h0,a2,aZ,aZ,bx];simp[Atom.bytes]
 .obtain rfl:k=0:=ad;simp[dE,aQ,<-bx]
theorem CV(f:a1):jH f=[102,117,110,99,32]++(f.name.data.toList++([40]++(gD f.params++([41,32,123,10]++(cu 1 f.body++[125,10]))))):=by
 unfold jH gP gD cu;simp only[aZ,a2];simp[aQ,Atom.bytes,kw]
theorem kX(f:α->List Atom)(l:List α):aQ (l.flatMap f)=(l.map λx=>aQ (f x)).flatten:=by
 induction l with
 | nil=>rfl
 | cons a l ab=>rw[J2,a2,ab];simp
def eJ{α:Type}(f:α->List UInt8)(l:List α):List UInt8:=(l.map f).flatten
theorem l7{f:α->List UInt8}{l:List α}{x:α}(h:l[k]?=some x):eJ f (l.take (k+1))=eJ f (l.take k)++f x:=by
 unfold eJ;rw[List.take_add_one,h,JP,List.flatten_append];simp
theorem ke(f:α->List UInt8)(l:List α)(k:Nat):(eJ f (l.take k)).length<=(eJ f l).length:=by
 conv=>rhs;rw[<-List.take_append_drop k l]
 unfold eJ;rw[JP,List.flatten_append,JK];omega
theorem qs(p:bC):aQ (e5 p)=eJ g0 p.globals++(eJ jI p.af++eJ jH p.funcs):=by
 unfold e5;rw[a2,a2,kX,kX,kX];rfl
def an.iT:List aE->an
 | []=>.nil
 | .set v n e::l=>.set v n e (iT l)
 | .call g n aH::l=>.call g n aH (iT l)
 | .lock u r::l=>.lock u r (iT l)
 | .ite e th el::l=>.ite e th el (iT l)
 | .fL e th::l=>.fL e th (iT l)
 | .ret::l=>.ret (iT l)
def aE.decl:aE->List ByteArray
 | .set true n _=>[n]
 | _=>[]
def decls(l:List aE):List ByteArray:=l.flatMap aE.decl
def an.all:an->List ByteArray
 | .nil=>[]
 | .set true n _ rest=>n::rest.all
 | .set false _ _ rest=>rest.all
 | .call _ _ _ rest=>rest.all
 | .lock _ _ rest=>rest.all
 | .ite _ th el rest=>th.all++el.all++rest.all
 | .fL _ th rest=>th.all++rest.all
 | .ret rest=>rest.all
def aE.all:aE->List ByteArray
 | .set true n _=>[n]
 | .ite _ th el=>th.all++el.all
 | .fL _ th=>th.all
 | _=>[]
theorem all_cons(s:aE)(l:List aE):(an.iT (s::l)).all=s.all++(an.iT l).all:=by
 cases s with
 | set v n e=>cases v<;>rfl
 | ite e th el=>simp[an.iT,an.all,aE.all]
 | fL e th=>simp[an.iT,an.all,aE.all]
 | call g n aH=>rfl
 | lock u r=>rfl
 | ret=>rfl
theorem D3(l m:List aE):(an.iT (l++m)).all=(an.iT l).all++(an.iT m).all:=by
 induction l with
 | nil=>rfl
 | cons s l ab=>rw[JX,all_cons,all_cons,ab,JW]
theorem CI(s:aE)(h:n∈s.decl):n∈s.all:=by
 cases s with
 | set v n e=>cases v<;>simp_all [aE.decl,aE.all]
 | _=>simp[aE.decl] at h
theorem w2(l:List aE)(h:n∈decls l):n∈(an.iT l).all:=by
 induction l with
 | nil=>simp[decls] at h
 | cons s l ab=>
  rw[all_cons];unfold decls at h;rw[J2] at h;rcases JR.1 h with h|h
  .exact JR.2 (.inl (CI s h))
  .exact JR.2 (.inr (ab h))
def aE.num:aE->Nat
 | .ite _ th el=>th.num+el.num+1
 | .fL _ th=>th.num+1
 | _=>1
theorem sy(s:aE)(l:List aE):(an.iT (s::l)).num=s.num+(an.iT l).num:=by
 cases s<;>simp only[an.iT,an.num,aE.num]<;>omega
theorem Ez(l m:List aE):(an.iT (l++m)).num=(an.iT l).num+(an.iT m).num:=by
 induction l with
 | nil=>simp[an.iT,an.num]
 | cons s l ab=>rw[JX,sy,sy,ab,Nat.add_assoc]
def GY(G:Env)(d:Nat)(V T:Kk):aE->Prop
 | .set true n e=>bw n.data.toList=true/\n∉T/\e.src V 2
 | .set false n e=>n∈V/\e.src V 2
 | .call _ n aH=>∃ps,(n,ps)∈G.funcs/\lp G V ps aH
 | .lock _ r=>wL G V r
 | .ite e th el=>∃k,d=k+1/\e.src V 2/\gr G k V T th/\gr G k V T el
 | .fL e th=>∃k,d=k+1/\e.src V 2/\gr G k V T th
 | .ret=>True
theorem wK:gr G d V T .nil:=by cases d<;>trivial
theorem ta{s:aE}:gr G d V T (.iT (s::l))↔GY G d V T s/\gr G d (V++s.decl) (T++s.decl) (.iT l):=by
 cases s with
 | set v n e=>
  cases v
  .simp only[an.iT,aE.decl,GY,J7];cases d<;>exact⟨λh=>⟨⟨h.1,h.2.1⟩,h.2.2⟩,λh=>⟨h.1.1,h.1.2,h.2⟩⟩
  .simp only[an.iT,aE.decl,GY]
   cases d<;>exact⟨λh=>⟨⟨h.1,h.2.1,h.2.2.1⟩,h.2.2.2⟩,λh=>⟨h.1.1,h.1.2.1,h.1.2.2,h.2⟩⟩
 | call g n aH=>
  exact yv
 | lock u r=>
  exact yv
 | ite e th el=>
  simp only[an.iT,aE.decl,GY,J7]
  cases d with
  | zero=>exact⟨λh=>h.elim,λ⟨⟨k,h,_⟩,_⟩=>ad⟩
  | succ d=>exact⟨λh=>⟨⟨d,rfl,h.1,h.2.1,h.2.2.1⟩,h.2.2.2⟩,λ⟨⟨k,h,ac,ap,aD⟩,bt⟩=>by
    obtain rfl:d=k:=ad
    exact⟨ac,ap,aD,bt⟩⟩
 | fL e th=>
  simp only[an.iT,aE.decl,GY,J7]
  cases d with
  | zero=>exact⟨λh=>h.elim,λ⟨⟨k,h,_⟩,_⟩=>ad⟩
  | succ d=>exact⟨λh=>⟨⟨d,rfl,h.1,h.2.1⟩,h.2.2⟩,λ⟨⟨k,h,ac,ap⟩,bt⟩=>by
    obtain rfl:d=k:=ad
    exact⟨ac,ap,bt⟩⟩
 | ret=>
  simp only[an.iT,aE.decl,GY,J7,true_and];cases d<;>exact Iff.rfl
theorem wJ{G:Env}{d:Nat}:∀{V T:Kk} {l m:List aE},gr G d V T (.iT (l++m))↔gr G d V T (.iT l)/\gr G d (V++decls l) (T++decls l) (.iT m)
 | V,T,[],m=>by simp[decls,an.iT,wK]
 | V,T,s::l,m=>by
  have ab:=wJ (G:=G) (d:=d) (V:=V++s.decl) (T:=T++s.decl) (l:=l) (m:=m);rw[JX,ta,ta,ab];simp only[decls,J2,JW];exact and_assoc.symm
def pq(k:Nat):ByteArray:=⟨#[118,UInt8.ofNat (97+k % 26),UInt8.ofNat (97+k / 26 % 26)]⟩
theorem xD{j:Nat}(be:j<26)(aj:k<26)(h:pq j=pq k):j=k:=by
 unfold pq at h;rw[ByteArray.ext_iff] at h;have ap:=congrArg (λa:Array UInt8=>a[1]!) h;have aD:(UInt8.ofNat (97+j % 26)).toNat=(UInt8.ofNat (97+k % 26)).toNat:=congrArg UInt8.toNat ap;simp at aD;omega
structure Made(G:Env)(d:Nat)(V T:Kk)(L a:Nat)(l:List aE):Prop where
 wf:gr G d V T (.iT l)
 all:∀n∈(an.iT l).all,∃k,a<=k/\k<L/\n=pq k
 num:(an.iT l).num<=2*(L - a)
 le:a<=L
theorem Made.nil(G:Env)(d:Nat)(V T:Kk)(L:Nat):Made G d V T L L []:=⟨wK,λn h=>by simp[an.iT,an.all] at h,by simp[an.iT,an.num],JI _⟩
def vz(T:Kk)(L:Nat):Prop:=∀k,k<L->pq k∉T
theorem Made.free{a:Nat}(h:Made G d V T L a l)(bP:L<=26)(aA:vz T L):vz (T++decls l) a:=λk aj hm=>by
 rcases JR.1 hm with hm|hm
 .exact aA k (aC h.le) hm
 .obtain⟨j,ac,ap,aD⟩:=h.all _ (w2 l hm);have:=xD ad ad aD;omega
theorem Made.snoc{bU q:Nat}(h:Made G d V T L bU l){m:List aE}(hm:gr G d (V++decls l) (T++decls l) (.iT m))(bE:∀n∈(an.iT m).all,∃k,q<=k/\k<bU/\n=pq k)
  (hn:(an.iT m).num<=2*(bU - q)) (hle:q<=bU):Made G d V T L q (l++m):=by
 refine⟨wJ.2 ⟨h.wf,hm⟩,λn hn=>?_,?_,JZ hle h.le⟩
 .rw[D3] at hn;rcases JR.1 hn with hn|hn
  .obtain⟨k,ac,ap,aD⟩:=h.all n hn;exact⟨k,ad,ap,aD⟩
  .obtain⟨k,ac,ap,aD⟩:=bE n hn;exact⟨k,ac,by have:=h.le;omega,aD⟩
 .rw[Ez];have ac:=h.num;have ap:=h.le;omega
def j7(x:ax):Prop:=(x.op=2\/x.op=3)\/(x.ints=[]/\x.places=[])
def DP(u:ay):Prop:=∀p∈u.procs,∀x∈p.code,j7 x
theorem ea{y:ax}(h:∀x∈c,j7 x)(aa:j7 y):∀x∈c++[y],j7 x:=λx hx=>by
 rcases JR.1 hx with hx|hx
 .exact h x hx
 .rw[J9.1 hx];exact aa
theorem jw{b:Nat}{t:Int}(h:∀x∈c,j7 x):∀x∈fw c b t,j7 x:=λx hx=>by
 rcases oD hx with hx|⟨y,aa,rfl⟩
 .exact h x hx
 .exact h y (JL aa)
theorem dc:∀(b:an) (l:List dv) (n:Int) (c:List ax),(∀x∈c,j7 x)->∀x∈(ds b l n c).1,j7 x
 | .nil,_,_,c,h=>h
 | .set true s e rest,l,n,c,h=>dc rest _ _ _ (ea h (.inr ⟨rfl,rfl⟩))
 | .set false s e rest,l,n,c,h=>dc rest _ _ _ (ea h (.inr ⟨rfl,rfl⟩))
 | .call g s aH rest,l,n,c,h=>dc rest _ _ _ (ea h (.inl (by cases g<;>simp[kK])))
 | .lock u r rest,l,n,c,h=>dc rest _ _ _ (ea h (.inr ⟨rfl,rfl⟩))
 | .ite e th el rest,l,n,c,h=>by
  have ac:=dc th l n _ (ea (y:=jQ (bG l e) 0) h (.inr ⟨rfl,rfl⟩));simp only[ds];refine dc rest _ _ _ ?_;split
  .exact jw ac
  .exact jw (dc el l _ _ (jw (ea ac (.inr ⟨rfl,rfl⟩))))
 | .fL e th rest,l,n,c,h=>by
  have ac:=dc th l n _ (ea (y:=jQ (bG l e) 0) h (.inr ⟨rfl,rfl⟩))
  exact dc rest _ _ _ (jw (ea ac (.inr ⟨rfl,rfl⟩)))
 | .ret rest,l,n,c,h=>dc rest _ _ _ (ea h (.inr ⟨rfl,rfl⟩))
theorem wh(p:bC):DP (hY p):=λq bx=>by
 simp only[hY,J6] at bx;obtain⟨f,_,rfl⟩:=bx;exact ea (dc _ _ _ _ (by simp)) (.inr ⟨rfl,rfl⟩)
structure xX(u:ay):Prop where
 ok:de u
 sh:DP u
theorem xX.Hr{u:ay}{f:ai}(h:xX u)(hF:bX u f):∃cc x,u.procs[f.proc.toNat]?=some cc/\cc.code[f.pc.toNat]?=some x/\f.proc.toNat<u.procs.length/\f.pc.toNat<cc.code.length/\0<=f.proc/\0<=f.pc/\(∃len:Nat,cc.code.length=len+1/\g5 (bp u) cc.locals cc.aq len x)/\x.ints.length<=200/\x.places.length<=200/\(x.op≠8->f.pc+1<cc.code.length)/\oP (bp u) cc:=by
 obtain⟨cc,x,hp,S,hx,len,hl,I,hn⟩:=ov h.ok hF;have ac:=(List.getElem?_eq_some_iff.1 hp).1;have ap:=(List.getElem?_eq_some_iff.1 hx).1;have hlen:x.ints.length<=200/\x.places.length<=200:=by
  rcases h.sh cc (JL hp) x (JL hx) with aD|⟨aD,bt⟩
  .rcases I with⟨bt,_⟩|⟨_,_,sg,_,hs,cl,Q,_⟩|⟨bt,_⟩|⟨bt,_⟩|⟨bt,_⟩|⟨bt,_⟩
   .omega
   .simp only[bp,List.getElem?_map] at hs
    cases bx:u.procs[x.target.toNat]? with
    | none=>rw[bx] at hs;cases hs
    | some r=>
     rw[bx] at hs;simp only[Option.map_some,Ka] at hs;have aZ:=h.ok.procs r (JL bx);have:=aZ.ints;have:=aZ.aq;subst hs;simp only at cl Q;omega
   .omega
   .omega
   .omega
   .omega
  .rw[aD,bt];simp
 exact⟨cc,x,hp,hx,ac,ap,hF.proc,hF.pc,⟨len,hl,I⟩,hlen.1,hlen.2,hn,S⟩
end Go.Proofs.YtnigabjngpnbiaaGreat
