/- Part 18 of the proof. No condition of its own. -/
import Derived.Test.YtpkfopfkdgkfkaaGreatQ07
import Derived.Test.YtpkfopfkdgkfkaaGreatQ09
import Derived.Test.YtpkfopfkdgkfkaaGreatQ10
namespace Go.Proofs.YtpkfopfkdgkfkaaGreat
open Go.RowKit Go.Proofs.Tryz
set_option maxRecDepth 1000000
set_option maxHeartbeats 25600000
set_option linter.unusedVariables false
variable{e o:Int}{bc:Mu}{X:List bM}{L d j k:Nat}{α:Type}{a b:World}{f:aL}{Q:ak}{p:bQ}{r:e4}
structure gq(s:Nat)(w ab:World):Prop where
 os:ab.os=w.os
 tape:ab.tape=w.tape
 output:ab.output=w.output
 size:w.heap.size<=ab.heap.size
 block:∀k,k<w.heap.size->k≠s->ab.heap[k]?=w.heap[k]?
theorem gq.refl(s:Nat)(w:World):gq s w w:=⟨rfl,rfl,rfl,LK _,λ_ _ _=>rfl⟩
theorem gq.trans{s:Nat}{a b c:World}(h:gq s a b)(k:gq s b c):gq s a c:=
 ⟨k.os.trans h.os,k.tape.trans h.tape,k.output.trans h.output,L6 h.size k.size,λi aX hn=>(k.block i (LL aX h.size) hn).trans (h.block i aX hn)⟩
theorem gq.of{s:Nat}(h:Below a a b):gq s a b:=⟨h.os,h.tape,h.output,h.size,λk aj _=>h.block k aj⟩
theorem gq.below{s:Nat}(h:gq s a b)(hs:s<=a.heap.size):Below s a b:=⟨h.os,h.tape,h.output,h.size,λk aj=>h.block k ad ad⟩
theorem gq.setCell{s:Nat}{a b:World}(h:gq s a b)(j:Nat)(v:Value):gq s a (b.setCell ⟨s,j,none⟩ v):=by
 refine⟨h.os,h.tape,h.output,by simpa using h.size,λk aj hn=>?_⟩;rw[Below.heap_setCell _ _ _ _ hn];exact h.block k aj hn
theorem gq.drew{s:Nat}{a b:World}(h:gq s a b):gq s a b.drew:=⟨h.os,h.tape,h.output,h.size,h.block⟩
theorem gq.cell{s:Nat}{a b:World}(h:gq s a b){k j:Nat}(aj:k<a.heap.size)(hn:k≠s):b.cell? ⟨k,j,none⟩=a.cell? ⟨k,j,none⟩:=World.cell?_of_block (h.block k aj hn)
structure cr(w:World)(s:Nat)(A:Mt)(n c:Nat)(l:List Int):Prop where
 lt:s<w.heap.size
 c0:w.cell? ⟨s,0,none⟩=some (.slice A n c)
 c1:∃i:Nat,i<=n/\w.cell? ⟨s,1,none⟩=some (.int .i64 i)
 fz:w.frozen? ⟨s,1,none⟩=false
 ls:cw (EF cO) 1 w s A n l
 hn:n<=1000
theorem cr.on{w ab:World}{s:Nat}{A:Mt}{n c:Nat}{l:List Int}(h:cr w s A n c l)(O:Below w w ab):cr ab s A n c l:=by
 have an:=h.lt;refine⟨LL h.lt O.size,?_,?_,?_,h.ls.eB (O.mono ad),h.hn⟩
 .exact(O.cell (p:=⟨s,0,none⟩) an).trans h.c0
 .obtain⟨i,aX,hc⟩:=h.c1;exact⟨i,aX,(O.cell (p:=⟨s,1,none⟩) an).trans hc⟩
 .exact(O.frozen (p:=⟨s,1,none⟩) an).trans h.fz
def xE(w:World)(s:Nat)(A:Mt)(n c:Nat)(l:List Int)(m:Int)(e:Ending)(ab:World):Prop:=
 ∃k,e=.returned (.int .i64 k)/\0<=k/\k<m/\cr ab s A n c l/\gq s w ab
theorem a1(w:World)(s:Nat)(A:Mt)(n c:Nat)(l:List Int)(m:Int)(h:cr w s A n c l)(hm:0<m)(bQ:m<=4611686018427387904) :
  Calls prog 30 #[.pointer (some ⟨s,0,none⟩),m] w (xE w s A n c l m):=by
 have H:=ae h;obtain⟨an,L,⟨i,aX,cz⟩,du,y,hn⟩:=h;by_cases a6:i<n
 case neg=>
  have q:decide ((i:Int)>=n)=true:=by simp;omega
  clear y;go_enter func30,ntmps30;go_wp2;go_quiet (fail)
  go_wp2;go_ret;exact⟨0,rfl,ad,hm,H.on (cY (Below.refl _ _) _),.of (cY (Below.refl _ _) _)⟩
 have q:decide ((i:Int)>=n)=false:=by simp;omega
 obtain⟨b,o,x,rfl,O,hx,hc⟩:=y.int a6;clear hx y;go_enter func30,ntmps30;go_wp2;go_quiet (fail)
 go_wp2;obtain⟨h,aw,e,f,ap⟩:cr ((w.drewN nq).setCell ⟨s,1,none⟩ (.int .i64 ((i:Int)+1))) s (some ⟨b,o,none⟩) n c l/\gq s w ((w.drewN nq).setCell ⟨s,1,none⟩ (.int .i64 ((i:Int)+1)))/\
   ((w.drewN nq).setCell ⟨s,1,none⟩ (.int .i64 ((i:Int)+1))).cell? ⟨s,0,none⟩=some (.slice (some ⟨b,o,none⟩) n c)/\((w.drewN nq).setCell ⟨s,1,none⟩ (.int .i64 ((i:Int)+1))).cell? ⟨s,1,none⟩=some (.int .i64 ((i:Int)+1))/\
   ((w.drewN nq).setCell ⟨s,1,none⟩ (.int .i64 ((i:Int)+1))).cell? ⟨b,o+i,none⟩=some (.int .i64 x):=by
  have d:=H.on (cY (Below.refl _ _) nq);have aw:gq s w (w.drewN nq):=.of (cY (Below.refl _ _) nq);generalize w.drewN nq=v at *;have e0:(v.setCell ⟨s,1,none⟩ (.int .i64 ((i:Int)+1))).cell? ⟨s,0,none⟩=some (.slice (some ⟨b,o,none⟩) n c):=(World.cell?_setCell_other _ _ _ _ (by simp)).trans d.c0;have e1:(v.setCell ⟨s,1,none⟩ (.int .i64 ((i:Int)+1))).cell? ⟨s,1,none⟩=some (.int .i64 ((i:Int)+1)):=by
   obtain⟨k,_,aj⟩:=d.c1;simp[go_sem,aj]
  have cv:Below s v (v.setCell ⟨s,1,none⟩ (.int .i64 ((i:Int)+1))):=(Below.refl s v).setCell (p:=⟨s,1,none⟩) (LK s) _;refine⟨⟨by simpa using d.lt,e0,⟨i+1,ad,by rw[e1];simp⟩,(World.frozen?_setCell _ _ _ _).trans d.fz,d.ls.eB cv,d.hn⟩,aw.setCell _ _,e0,e1,?_⟩;rw[cv.cell (by exact O),<-hc];exact aw.cell ad ad
 have av:IntKind.i64.wrap ((i:Int)+1 - 1)=i:=by rw[show (i:Int)+1 - 1=i by omega];exact IntWalk.i64_in _ ad
 have de:=ag h aw;clear h aw H L cz hc du;generalize (w.drewN nq).setCell ⟨s,1,none⟩ (.int .i64 ((i:Int)+1))=v at *;go_quiet (first|(go_at_call 9;refine Calls.quiet_of_same ((dV x m hm bQ _).mono λ_ _ h=>⟨h.1,h.2.symm⟩)))
 go_wp2;go_ret;have a5:=dx (x:=x) (n:=m) hm;exact⟨_,rfl,a5.1,a5.2,de.1.on (cY (Below.refl _ _) _),de.2.trans (.of (cY (Below.refl _ _) _))⟩
section
variable {U:hO} {G:Env} {l:List dQ} {V T:Mu} {n nk:Int}
theorem Sc.gh(hS:Sc U G l V T n nk):∀(d:Nat) (x:VE),x.src V d->gh l x
 | d,.num k,h=>trivial
 | d,.hg s,h=>by
  have E:s∈V:=by cases d<;>exact h
  obtain⟨e,he,aj⟩:=hS.vars s E
  exact⟨e,he,aj.imp (λh=>h.1) (λh=>h.1)⟩
 | d,.loc _,h=>by cases d<;>exact h.elim
 | d,.iI _,h=>by cases d<;>exact h.elim
 | 0,.un _ _,h=>h.elim
 | 0,.bin _ _ _,h=>h.elim
 | d+1,.un op x,h=>⟨h.1,Sc.gh hS d x h.2⟩
 | d+1,.bin op x y,h=>⟨h.1,Sc.gh hS d x h.2.1,Sc.gh hS d y h.2.2⟩
theorem Sc.qy(hS:Sc U G l V T n nk)(r:e4)(h:sc G V r):qy U.af l r:=by
 rcases h with⟨m,hm,hn,ac,ap⟩|⟨hp,aX⟩
 .obtain⟨e,he,aj,h0,hu⟩:=hS.JJ m hm;rw[hn] at he;exact⟨e,he,.inr ⟨aj,m,h0,hu,λhs=>by obtain⟨x,hx,aA⟩:=ac hs;exact⟨x,hx,hS.gh 2 x aA⟩,ap⟩⟩
 .obtain⟨e,he,aj,_,_⟩:=hS.E7 _ hp;exact⟨e,he,.inl ⟨aj,aX⟩⟩
end
def vm(F:List aL)(G:Env)(l:List dQ):Prop:=∀s ps,(s,ps)∈G.funcs->∃(e:dQ) (f:aL),dJ l s=some e/\e.kind=3/\0<=e.n/\F[e.n.toNat]?=some f/\f.params=ps
theorem vm.app{F:List aL}{G:Env}{l:List dQ}(h:vm F G l)(x:dQ):vm F G (l++[x]):=λs ps hs=>by
 obtain⟨e,f,he,r⟩:=h s ps hs;exact⟨e,f,jH he,r⟩
theorem Eu(hp:oJ p)(J:f∈p.funcs):vm p.funcs (h7 p f) (bp p++dY f.params 0 0):=by
 intro s ps hs;have aW:((bp p++dY f.params 0 0).map (·.name)).Nodup:=by
  rw[LR,gf,fZ];exact(hp.funcs f J).fresh
 obtain⟨g,aR,bB⟩:=Mf.1 hs;injection bB with bj al;subst bj al;obtain⟨i,aX⟩:=List.getElem?_of_mem aR;have:=lg aW (LU.2 (.inl (by unfold bp;exact LU.2 (.inr (iq (·.name) 3 p.funcs 0 i g aX)))));refine⟨_,g,this,rfl,by show (0:Int)<=((0+i:Nat):Int);omega,?_,rfl⟩;show p.funcs[(((0+i:Nat):Int)).toNat]?=some g
 rw[Mc,L8];exact aX
def jl(M:List bM)(l:List dQ):List (ByteArray×Bool)->List dt->Prop
 | [],[]=>True
 | p::ps,.mx r::aW=>(p.2=true/\qy M l r)/\jl M l ps aW
 | p::ps,.ex e::aW=>(p.2=false/\gh l e)/\jl M l ps aW
 | _,_=>False
theorem Sc.jl{U:hO}{G:Env}{l:List dQ}{V T:Mu}{n nk:Int}(hS:Sc U G l V T n nk):∀(ps:List (ByteArray×Bool)) (aW:List dt),iU G V ps aW->jl U.af l ps aW
 | [],[],_=>trivial
 | p::ps,.mx r::aW,h=>⟨⟨h.1.1,hS.qy r h.1.2⟩,Sc.jl hS ps aW h.2⟩
 | p::ps,.ex e::aW,h=>⟨⟨h.1.1,hS.gh 2 e h.1.2⟩,Sc.jl hS ps aW h.2⟩
 | [],_::_,h=>h.elim
 | _::_,[],h=>h.elim
theorem lY{M:List bM}{l:List dQ}:∀{ps:List (ByteArray×Bool)} {aW:List dt},jl M l ps aW->ps.length=aW.length
 | [],[],_=>rfl
 | _::ps,.mx _::aW,h=>by simp[lY h.2]
 | _::ps,.ex _::aW,h=>by simp[lY h.2]
 | [],_::_,h=>h.elim
 | _::_,[],h=>h.elim
theorem ni{M:List bM}{l:List dQ}:∀{ps:List (ByteArray×Bool)} {aW:List dt},jl M l ps aW->∀{k:Nat} {q:ByteArray×Bool} {a:dt},ps[k]?=some q->aW[k]?=some a->
  (∃r,a=.mx r/\q.2=true/\qy M l r)\/(∃e,a=.ex e/\q.2=false/\gh l e)
 | [],[],_,k,q,a,h,_=>by simp at h
 | p::ps,.mx r::aW,h,0,q,a,ac,ap=>by
  simp at ac ap;subst ac ap
  exact .inl ⟨r,rfl,h.1.1,h.1.2⟩
 | p::ps,.ex e::aW,h,0,q,a,ac,ap=>by
  simp at ac ap;subst ac ap
  exact .inr ⟨e,rfl,h.1.1,h.1.2⟩
 | p::ps,.mx r::aW,h,k+1,q,a,ac,ap=>ni h.2 (by simpa using ac) (by simpa using ap)
 | p::ps,.ex e::aW,h,k+1,q,a,ac,ap=>ni h.2 (by simpa using ac) (by simpa using ap)
 | [],_::_,h,_,_,_,_,_=>h.elim
 | _::_,[],h,_,_,_,_,_=>h.elim
theorem ia(l:List dQ)(aW:List dt)(a:dt):bW l (aW++[a])=bW l aW++bW l [a]/\cG l (aW++[a])=cG l aW++cG l [a]:=by
 induction aW with
 | nil=>exact⟨rfl,rfl⟩
 | cons x aW Z=>cases x<;>simp[bW,cG,Z.1,Z.2]
theorem ao.Ec{C:ao->Prop}(f:∀b:ao,(∀s∈b.list,C s.th/\C s.el)->C b):∀b:ao,C b:=by
 have c:C .nil:=f .nil λs hs=>by simp[ao.list] at hs
 have fin:∀b:ao,(∀s∈b.list,C s.th/\C s.el)->C b/\∀s∈b.list,C s.th/\C s.el:=λb h=>⟨f b h,h⟩
 suffices h:∀b:ao,C b/\∀s∈b.list,C s.th/\C s.el from λb=>(h b).1
 intro b
 induction b with
 | nil=>exact fin _ λs hs=>by simp[ao.list] at hs
 | set v n e rest Z=>
  exact xN
 | call g n aW rest Z=>
  exact xN
 | lock u r rest Z=>
  exact xN
 | ite e th el rest j o Z=>
  refine fin _ λs hs=>?_;rcases L5.1 hs with rfl|hs
  .exact⟨j.1,o.1⟩
  .exact Z.2 s hs
 | gI e th rest j Z=>
  refine fin _ λs hs=>?_;rcases L5.1 hs with rfl|hs
  .exact⟨j.1,c⟩
  .exact Z.2 s hs
 | ret rest Z=>
  exact xN
theorem iJ:∀(b:ao) (s:aD),s∈b.list->s.th.num+s.el.num<b.num
 | .nil,s,h=>by simp[ao.list] at h
 | .set v n e rest,s,h=>by
  rcases L5.1 h with rfl|h
  .simp[aD.th,aD.el,ao.num]
  .have:=iJ rest s h;simp only[ao.num];omega
 | .call g n aW rest,s,h=>by
  rcases L5.1 h with rfl|h
  .simp[aD.th,aD.el,ao.num]
  .have:=iJ rest s h;simp only[ao.num];omega
 | .lock u r rest,s,h=>by
  rcases L5.1 h with rfl|h
  .simp[aD.th,aD.el,ao.num]
  .have:=iJ rest s h;simp only[ao.num];omega
 | .ite e th el rest,s,h=>by
  rcases L5.1 h with rfl|h
  .simp only[aD.th,aD.el,ao.num];omega
  .have:=iJ rest s h;simp only[ao.num];omega
 | .gI e th rest,s,h=>by
  rcases L5.1 h with rfl|h
  .simp only[aD.th,aD.el,ao.num];omega
  .have:=iJ rest s h;simp only[ao.num];omega
 | .ret rest,s,h=>by
  rcases L5.1 h with rfl|h
  .simp[aD.th,aD.el,ao.num]
  .have:=iJ rest s h;simp only[ao.num];omega
def wR(e:VE):Prop:=∃N d,dO N/\d<=12/\e.src N d
def oG(r:e4):Prop:=bD r.name.data.toList=true/\∀e,r.idx=some e->wR e
def ux:dt->Prop
 | .mx r=>oG r
 | .ex e=>wR e
def gL:Nat->ao->Prop
 | _,.nil=>True
 | d,.set _ n e rest=>bD n.data.toList=true/\wR e/\gL d rest
 | d,.call _ n aW rest=>(bD n.data.toList=true/\(∀a∈aW,ux a)/\aW.length<=1000)/\gL d rest
 | d,.lock _ r rest=>oG r/\gL d rest
 | 0,.ite ..=>False
 | 0,.gI ..=>False
 | d+1,.ite e th el rest=>wR e/\gL d th/\gL d el/\gL (d+1) rest
 | d+1,.gI e th rest=>wR e/\gL d th/\gL (d+1) rest
 | d,.ret rest=>gL d rest
def Kq(d:Nat):aD->Prop
 | .set _ n e=>bD n.data.toList=true/\wR e
 | .call _ n aW=>bD n.data.toList=true/\(∀a∈aW,ux a)/\aW.length<=1000
 | .lock _ r=>oG r
 | .ite e th el=>wR e/\∃k,d=k+1/\gL k th/\gL k el
 | .gI e th=>wR e/\∃k,d=k+1/\gL k th
 | .ret=>True
theorem g0:∀(b:ao) (d:Nat),gL d b->∀s∈b.list,Kq d s
 | .nil,d,_,s,hs=>by simp[ao.list] at hs
 | .set v n e rest,d,h,s,hs=>by
  have E:bD n.data.toList=true/\wR e/\gL d rest:=by cases d<;>exact h
  rcases L5.1 hs with rfl|hs
  .exact⟨E.1,E.2.1⟩
  .exact g0 rest d E.2.2 s hs
 | .call g n aW rest,d,h,s,hs=>by
  have E:(bD n.data.toList=true/\(∀a∈aW,ux a)/\aW.length<=1000)/\gL d rest:=by cases d<;>exact h
  rcases L5.1 hs with rfl|hs
  .exact E.1
  .exact g0 rest d E.2 s hs
 | .lock u r rest,d,h,s,hs=>by
  have E:oG r/\gL d rest:=by cases d<;>exact h
  rcases L5.1 hs with rfl|hs
  .exact E.1
  .exact g0 rest d E.2 s hs
 | .ite e th el rest,0,h,s,hs=>h.elim
 | .gI e th rest,0,h,s,hs=>h.elim
 | .ite e th el rest,d+1,h,s,hs=>by
  rcases L5.1 hs with rfl|hs
  .exact⟨h.1,d,rfl,h.2.1,h.2.2.1⟩
  .exact g0 rest (d+1) h.2.2.2 s hs
 | .gI e th rest,d+1,h,s,hs=>by
  rcases L5.1 hs with rfl|hs
  .exact⟨h.1,d,rfl,h.2.1⟩
  .exact g0 rest (d+1) h.2.2 s hs
 | .ret rest,d,h,s,hs=>by
  have E:gL d rest:=by cases d<;>exact h
  rcases L5.1 hs with rfl|hs
  .trivial
  .exact g0 rest d E s hs
theorem oG.src(h:oG r):Fv r:=λe he=>by
 obtain⟨N,d,_,_,hs⟩:=h.2 e he;exact⟨N,d,hs⟩
theorem ux.src{a:dt}(h:ux a):GS a:=by
 cases a with
 | mx r=>exact oG.src h
 | ex e=>
  obtain⟨N,d,_,_,hs⟩:=h;exact⟨N,d,hs⟩
theorem wR.src{e:VE}(h:wR e):∃N d,e.src N d:=by
 obtain⟨N,d,_,_,hs⟩:=h;exact⟨N,d,hs⟩
theorem jq:∀(b:ao) (d:Nat),gL d b->nM b
 | .nil,_,_=>trivial
 | .set v n e rest,d,h=>by
  have E:bD n.data.toList=true/\wR e/\gL d rest:=by cases d<;>exact h
  exact⟨E.2.1.src,jq rest d E.2.2⟩
 | .call g n aW rest,d,h=>by
  have E:(bD n.data.toList=true/\(∀a∈aW,ux a)/\aW.length<=1000)/\gL d rest:=by cases d<;>exact h
  exact⟨⟨λa aZ=>(E.1.2.1 a aZ).src,E.1.2.2⟩,jq rest d E.2⟩
 | .lock u r rest,d,h=>by
  have E:oG r/\gL d rest:=by cases d<;>exact h
  exact⟨E.1.src,jq rest d E.2⟩
 | .ite e th el rest,0,h=>h.elim
 | .gI e th rest,0,h=>h.elim
 | .ite e th el rest,d+1,h=>⟨h.1.src,jq th d h.2.1,jq el d h.2.2.1,jq rest (d+1) h.2.2.2⟩
 | .gI e th rest,d+1,h=>⟨h.1.src,jq th d h.2.1,jq rest (d+1) h.2.2⟩
 | .ret rest,d,h=>by
  have E:gL d rest:=by cases d<;>exact h
  exact jq rest d E
theorem FH{G:Env}(hG:nU G){V:Mu}(hV:dO V)(h:sc G V r):oG r:=by
 rcases h with⟨m,hm,hn,ac,ap⟩|⟨hp,aX⟩
 .refine⟨by rw[<-hn];exact hG.af m hm,λe he=>?_⟩;by_cases hs:0<m.size
  .obtain⟨x,hx,aA⟩:=ac hs;rw[hx] at he;injection he with he;subst he;exact⟨V,2,hV,ad,aA⟩
  .rw[ap hs] at he;cases he
 .refine⟨hG.params _ hp,λe he=>?_⟩;rw[aX] at he;cases he
theorem ys{G:Env}(hG:nU G){V:Mu}(hV:dO V):∀(ps:List (ByteArray×Bool)) (aW:List dt),iU G V ps aW->(∀a∈aW,ux a)/\aW.length=ps.length
 | [],[],_=>⟨λa h=>by simp at h,rfl⟩
 | p::ps,a::aW,h=>by
  obtain⟨j,o⟩:=ys hG hV ps aW h.2;refine⟨λx hx=>?_,by simp[o]⟩;rcases L5.1 hx with rfl|hx
  .cases x with
   | mx r=>exact FH hG hV h.1.2
   | ex e=>exact⟨V,2,hV,ad,h.1.2⟩
  .exact j x hx
 | [],_::_,h=>h.elim
 | _::_,[],h=>h.elim
theorem kv{G:Env}(hG:nU G):∀(b:ao) (d:Nat) (V T:Mu),dO V->fm G d V T b->gL d b
 | .nil,d,V,T,hV,h=>by cases d<;>trivial
 | .set true n e rest,d,V,T,hV,h=>by
  have E:bD n.data.toList=true/\n∉T/\e.src V 2/\fm G d (V++[n]) (T++[n]) rest:=by cases d<;>exact h
  have Z:=kv hG rest d _ _ (j7 hV E.1) E.2.2.2;have r:bD n.data.toList=true/\wR e/\gL d rest:=⟨E.1,⟨V,2,hV,ad,E.2.2.1⟩,Z⟩
  cases d<;>exact r
 | .set false n e rest,d,V,T,hV,h=>by
  have E:n∈V/\e.src V 2/\fm G d V T rest:=by cases d<;>exact h
  have Z:=kv hG rest d _ _ hV E.2.2;have r:bD n.data.toList=true/\wR e/\gL d rest:=⟨hV n E.1,⟨V,2,hV,ad,E.2.1⟩,Z⟩
  cases d<;>exact r
 | .call g n aW rest,d,V,T,hV,h=>by
  have E:(∃ps,(n,ps)∈G.funcs/\iU G V ps aW)/\fm G d V T rest:=by cases d<;>exact h
  have Z:=kv hG rest d _ _ hV E.2;obtain⟨ps,bO,aL⟩:=E.1;obtain⟨i,y⟩:=ys hG hV ps aW aL;have J:=hG.funcs _ bO;have hle:aW.length<=1000:=by have:=J.2;simp only[] at this;omega
  have r:(bD n.data.toList=true/\(∀a∈aW,ux a)/\aW.length<=1000)/\gL d rest:=⟨⟨J.1,i,hle⟩,Z⟩
  cases d<;>exact r
 | .lock u r rest,d,V,T,hV,h=>by
  have E:sc G V r/\fm G d V T rest:=by cases d<;>exact h
  have Z:=kv hG rest d _ _ hV E.2;have r:oG r/\gL d rest:=⟨FH hG hV E.1,Z⟩
  cases d<;>exact r
 | .ite e th el rest,0,V,T,hV,h=>h.elim
 | .gI e th rest,0,V,T,hV,h=>h.elim
 | .ite e th el rest,d+1,V,T,hV,h=>⟨⟨V,2,hV,ad,h.1⟩,kv hG th d V T hV h.2.1,kv hG el d V T hV h.2.2.1,kv hG rest (d+1) V T hV h.2.2.2⟩
 | .gI e th rest,d+1,V,T,hV,h=>⟨⟨V,2,hV,ad,h.1⟩,kv hG th d V T hV h.2.1,kv hG rest (d+1) V T hV h.2.2⟩
 | .ret rest,d,V,T,hV,h=>by
  have E:fm G d V T rest:=by cases d<;>exact h
  have Z:=kv hG rest d _ _ hV E;cases d<;>exact Z
def h8(g:ByteArray×Int):List UInt8:=aV (hW g)
def ks(m:bM):List UInt8:=aV (hY m)
def kr(f:aL):List UInt8:=aV (hR f)
def hv(l:List (ByteArray×Bool)):List UInt8:=aV (ep (l.map gT))
theorem EC(g:ByteArray×Int):h8 g=[118,97,114,32]++(g.1.data.toList++((if g.2=0 then [] else [32,61,32]++aV (hZ g.2))++[59,10])):=by
 unfold h8 hW;split
 .simp[aV,Atom.bytes,kw]
 .simp only[a5,bh,L4];simp[aV,Atom.bytes,kw]
theorem EV(m:bM):ks m=(if m.re then [114] else [])++([109,117,116,101,120,32]++(m.name.data.toList++((if 0<m.size then [91]++(aV (hZ m.size)++[93]) else [])++[59,10]))):=by
 unfold ks hY;by_cases h:0<m.size
 .cases m.re<;>simp[h,aV,Atom.bytes,kw,ga]
 .cases m.re<;>simp[h,aV,Atom.bytes,kw,ga]
theorem qx{l:List (ByteArray×Bool)}{q:ByteArray×Bool}(h:l[k]?=some q):hv (l.take (k+1))=hv (l.take k)++((if 0<k then [44,32] else [])++((if q.2 then [109,117,116,101,120,32] else [])++q.1.data.toList)):=by
 have aj:k<l.length:=(List.getElem?_eq_some_iff.1 h).1;have bK:aV (gT q)=(if q.2 then [109,117,116,101,120,32] else [])++q.1.data.toList:=by
  unfold gT;split<;>simp[aV,Atom.bytes,kw,ga]
 unfold hv;rw[List.take_add_one,h,LR];show aV (ep (List.map gT (List.take k l)++[gT q]))=_
 rw[l6];by_cases h0:0<k
 .rw[if_neg (by intro e;have:=congrArg List.length e;simp only[LO,List.length_take,Ma] at this;omega),if_pos h0,bh,a5,a5,bK];simp[Atom.bytes]
 .obtain rfl:k=0:=ad;simp[ep,aV,<-bK]
theorem Es(f:aL):kr f=[102,117,110,99,32]++(f.name.data.toList++([40]++(hv f.params++([41,32,123,10]++(cI 1 f.body++[125,10]))))):=by
 unfold kr hR hv cI;simp only[a5,bh];simp[aV,Atom.bytes,kw]
theorem l0(f:α->List Atom)(l:List α):aV (l.flatMap f)=(l.map λx=>aV (f x)).flatten:=by
 induction l with
 | nil=>rfl
 | cons a l Z=>rw[Mb,bh,Z];simp
def fA{α:Type}(f:α->List UInt8)(l:List α):List UInt8:=(l.map f).flatten
theorem nh{f:α->List UInt8}{l:List α}{x:α}(h:l[k]?=some x):fA f (l.take (k+1))=fA f (l.take k)++f x:=by
 unfold fA;rw[List.take_add_one,h,LR,List.flatten_append];simp
theorem k0(f:α->List UInt8)(l:List α)(k:Nat):(fA f (l.take k)).length<=(fA f l).length:=by
 conv=>rhs;rw[<-List.take_append_drop k l]
 unfold fA;rw[LR,List.flatten_append,LM];omega
theorem rX(p:bQ):aV (fS p)=fA h8 p.globals++(fA ks p.af++fA kr p.funcs):=by
 unfold fS;rw[bh,bh,l0,l0,l0];rfl
def ao.eY:List aD->ao
 | []=>.nil
 | .set v n e::l=>.set v n e (eY l)
 | .call g n aW::l=>.call g n aW (eY l)
 | .lock u r::l=>.lock u r (eY l)
 | .ite e th el::l=>.ite e th el (eY l)
 | .gI e th::l=>.gI e th (eY l)
 | .ret::l=>.ret (eY l)
theorem uv:∀l:List aD,(ao.eY l).list=l
 | []=>rfl
 | s::l=>by cases s<;>simp only[ao.eY,ao.list,uv l]
theorem mD(l:List aD):dc (.eY l)=l.map bj:=by rw[cK,uv]
def aD.decl:aD->List ByteArray
 | .set true n _=>[n]
 | _=>[]
def decls(l:List aD):List ByteArray:=l.flatMap aD.decl
theorem rA(l m:List aD):decls (l++m)=decls l++decls m:=List.flatMap_append
def ao.all:ao->List ByteArray
 | .nil=>[]
 | .set true n _ rest=>n::rest.all
 | .set false _ _ rest=>rest.all
 | .call _ _ _ rest=>rest.all
 | .lock _ _ rest=>rest.all
 | .ite _ th el rest=>th.all++el.all++rest.all
 | .gI _ th rest=>th.all++rest.all
 | .ret rest=>rest.all
def aD.all:aD->List ByteArray
 | .set true n _=>[n]
 | .ite _ th el=>th.all++el.all
 | .gI _ th=>th.all
 | _=>[]
theorem all_cons(s:aD)(l:List aD):(ao.eY (s::l)).all=s.all++(ao.eY l).all:=by
 cases s with
 | set v n e=>cases v<;>rfl
 | ite e th el=>simp[ao.eY,ao.all,aD.all]
 | gI e th=>simp[ao.eY,ao.all,aD.all]
 | call g n aW=>rfl
 | lock u r=>rfl
 | ret=>rfl
theorem xT(l m:List aD):(ao.eY (l++m)).all=(ao.eY l).all++(ao.eY m).all:=by
 induction l with
 | nil=>rfl
 | cons s l Z=>rw[L4,all_cons,all_cons,Z,L3]
theorem Eh(s:aD){n:ByteArray}(h:n∈s.decl):n∈s.all:=by
 cases s with
 | set v n e=>cases v<;>simp_all [aD.decl,aD.all]
 | _=>simp[aD.decl] at h
theorem yG(l:List aD){n:ByteArray}(h:n∈decls l):n∈(ao.eY l).all:=by
 induction l with
 | nil=>simp[decls] at h
 | cons s l Z=>
  rw[all_cons];unfold decls at h;rw[Mb] at h;rcases LU.1 h with h|h
  .exact LU.2 (.inl (Eh s h))
  .exact LU.2 (.inr (Z h))
def aD.num:aD->Nat
 | .ite _ th el=>th.num+el.num+1
 | .gI _ th=>th.num+1
 | _=>1
theorem kQ(s:aD)(l:List aD):(ao.eY (s::l)).num=s.num+(ao.eY l).num:=by
 cases s<;>simp only[ao.eY,ao.num,aD.num]<;>omega
theorem ye(l m:List aD):(ao.eY (l++m)).num=(ao.eY l).num+(ao.eY m).num:=by
 induction l with
 | nil=>simp[ao.eY,ao.num]
 | cons s l Z=>rw[L4,kQ,kQ,Z,Nat.add_assoc]
theorem td(s:aD):(ao.eY [s]).num=s.num:=by rw[kQ];simp[ao.eY,ao.num]
theorem ui(l:List aD):l.length<=(ao.eY l).num:=by
 induction l with
 | nil=>simp
 | cons s l Z=>
  rw[kQ];have:1<=s.num:=by cases s<;>simp[aD.num]
  simp;omega
def G0(G:Env)(d:Nat)(V T:Mu):aD->Prop
 | .set true n e=>bD n.data.toList=true/\n∉T/\e.src V 2
 | .set false n e=>n∈V/\e.src V 2
 | .call _ n aW=>∃ps,(n,ps)∈G.funcs/\iU G V ps aW
 | .lock _ r=>sc G V r
 | .ite e th el=>∃k,d=k+1/\e.src V 2/\fm G k V T th/\fm G k V T el
 | .gI e th=>∃k,d=k+1/\e.src V 2/\fm G k V T th
 | .ret=>True
theorem m8{G:Env}{V T:Mu}:fm G d V T .nil:=by cases d<;>trivial
theorem m7{G:Env}{V T:Mu}{s:aD}{l:List aD}:fm G d V T (.eY (s::l))↔G0 G d V T s/\fm G d (V++s.decl) (T++s.decl) (.eY l):=by
 cases s with
 | set v n e=>
  cases v
  .simp only[ao.eY,aD.decl,G0,Mg];cases d<;>exact⟨λh=>⟨⟨h.1,h.2.1⟩,h.2.2⟩,λh=>⟨h.1.1,h.1.2,h.2⟩⟩
  .simp only[ao.eY,aD.decl,G0]
   cases d<;>exact⟨λh=>⟨⟨h.1,h.2.1,h.2.2.1⟩,h.2.2.2⟩,λh=>⟨h.1.1,h.1.2.1,h.1.2.2,h.2⟩⟩
 | call g n aW=>
  exact Af
 | lock u r=>
  exact Af
 | ite e th el=>
  simp only[ao.eY,aD.decl,G0,Mg]
  cases d with
  | zero=>exact⟨λh=>h.elim,λ⟨⟨k,h,_⟩,_⟩=>ad⟩
  | succ d=>exact⟨λh=>⟨⟨d,rfl,h.1,h.2.1,h.2.2.1⟩,h.2.2.2⟩,λ⟨⟨k,h,ac,ap,aV⟩,bz⟩=>by
    obtain rfl:d=k:=ad
    exact⟨ac,ap,aV,bz⟩⟩
 | gI e th=>
  simp only[ao.eY,aD.decl,G0,Mg]
  cases d with
  | zero=>exact⟨λh=>h.elim,λ⟨⟨k,h,_⟩,_⟩=>ad⟩
  | succ d=>exact⟨λh=>⟨⟨d,rfl,h.1,h.2.1⟩,h.2.2⟩,λ⟨⟨k,h,ac,ap⟩,bz⟩=>by
    obtain rfl:d=k:=ad
    exact⟨ac,ap,bz⟩⟩
 | ret=>
  simp only[ao.eY,aD.decl,G0,Mg,true_and];cases d<;>exact Iff.rfl
theorem tz{G:Env}{d:Nat}:∀{V T:Mu} {l m:List aD},fm G d V T (.eY (l++m))↔fm G d V T (.eY l)/\fm G d (V++decls l) (T++decls l) (.eY m)
 | V,T,[],m=>by simp[decls,ao.eY,m8]
 | V,T,s::l,m=>by
  have Z:=tz (G:=G) (d:=d) (V:=V++s.decl) (T:=T++s.decl) (l:=l) (m:=m);rw[L4,m7,m7,Z];simp only[decls,Mb,L3];exact and_assoc.symm
theorem tA{G:Env}{V T:Mu}{s:aD}:fm G d V T (.eY [s])↔G0 G d V T s:=by
 rw[m7];exact⟨λh=>h.1,λh=>⟨h,m8⟩⟩
theorem dP{V bc:Mu}(h:V ⊆ bc):∀(d:Nat) (x:VE),x.src V d->x.src bc d
 | d,.num _,hx=>by cases d<;>exact hx
 | d,.hg s,hx=>by
  have g:s∈V:=by cases d<;>exact hx
  have:=h g
  cases d<;>exact this
 | d,.loc _,hx=>by cases d<;>exact hx.elim
 | d,.iI _,hx=>by cases d<;>exact hx.elim
 | 0,.un _ _,hx=>hx.elim
 | 0,.bin _ _ _,hx=>hx.elim
 | d+1,.un _ x,hx=>⟨hx.1,dP h d x hx.2⟩
 | d+1,.bin _ x y,hx=>⟨hx.1,dP h d x hx.2.1,dP h d y hx.2.2⟩
theorem kX{G:Env}{V:Mu}(h:V ⊆ bc)(a5:sc G V r):sc G bc r:=by
 rcases a5 with⟨m,hm,hn,ac,ap⟩|hp
 .exact .inl ⟨m,hm,hn,λhs=>by obtain⟨e,he,aA⟩:=ac hs;exact⟨e,he,dP h 2 e aA⟩,ap⟩
 .exact .inr hp
theorem nR{G:Env}{V bc:Mu}(h:V ⊆ bc):∀(ps:List (ByteArray×Bool)) (aW:List dt),iU G V ps aW->iU G bc ps aW
 | [],[],_=>trivial
 | p::ps,a::aW,aZ=>by
  refine⟨?_,nR h ps aW aZ.2⟩
  cases a with
  | mx r=>exact⟨aZ.1.1,kX h aZ.1.2⟩
  | ex e=>exact⟨aZ.1.1,dP h 2 e aZ.1.2⟩
 | [],_::_,aZ=>aZ.elim
 | _::_,[],aZ=>aZ.elim
theorem Fw{V:Mu}(h:V ⊆ bc)(m:Mu):V++m ⊆ bc++m:=λx hx=>by
 rcases LU.1 hx with hx|hx
 .exact LU.2 (.inl (h hx))
 .exact LU.2 (.inr hx)
theorem vW{A T ba:Mu}{n:ByteArray}(h:∀x∈A,x∈ba->x∈T):∀x∈A,x∈ba++[n]->x∈T++[n]:=λx hx hm=>by
 rcases LU.1 hm with hm|hm
 .exact LU.2 (.inl (h x hx hm))
 .exact LU.2 (.inr hm)
theorem ds{G:Env}:∀(b:ao) (d a:Nat) (V bc T ba:Mu),V ⊆ bc->(∀n∈b.all,n∈ba->n∈T)->d<=a->fm G d V T b->fm G a bc ba b
 | .nil,d,a,V,bc,T,ba,hV,hT,hd,h=>m8
 | .set true n e rest,d,a,V,bc,T,ba,hV,hT,hd,h=>by
  have E:bD n.data.toList=true/\n∉T/\e.src V 2/\fm G d (V++[n]) (T++[n]) rest:=by cases d<;>exact h
  have Z:=ds rest d a (V++[n]) (bc++[n]) (T++[n]) (ba++[n]) (Fw hV _) (vW λx hx=>hT x (by simp[ao.all,hx])) hd E.2.2.2;have r:bD n.data.toList=true/\n∉ba/\e.src bc 2/\fm G a (bc++[n]) (ba++[n]) rest:=⟨E.1,λhm=>E.2.1 (hT n (by simp[ao.all]) hm),dP hV 2 e E.2.2.1,Z⟩
  cases a<;>exact r
 | .set false n e rest,d,a,V,bc,T,ba,hV,hT,hd,h=>by
  have E:n∈V/\e.src V 2/\fm G d V T rest:=by cases d<;>exact h
  have Z:=ds rest d a V bc T ba hV (λx hx=>hT x (by simp[ao.all,hx])) hd E.2.2;have r:n∈bc/\e.src bc 2/\fm G a bc ba rest:=⟨hV E.1,dP hV 2 e E.2.1,Z⟩
  cases a<;>exact r
 | .call g n aW rest,d,a,V,bc,T,ba,hV,hT,hd,h=>by
  have E:(∃ps,(n,ps)∈G.funcs/\iU G V ps aW)/\fm G d V T rest:=by cases d<;>exact h
  have Z:=ds rest d a V bc T ba hV (λx hx=>hT x (by simp[ao.all,hx])) hd E.2;obtain⟨ps,bO,aL⟩:=E.1;have r:(∃ps,(n,ps)∈G.funcs/\iU G bc ps aW)/\fm G a bc ba rest:=⟨⟨ps,bO,nR hV ps aW aL⟩,Z⟩
  cases a<;>exact r
 | .lock u r rest,d,a,V,bc,T,ba,hV,hT,hd,h=>by
  have E:sc G V r/\fm G d V T rest:=by cases d<;>exact h
  have Z:=ds rest d a V bc T ba hV (λx hx=>hT x (by simp[ao.all,hx])) hd E.2;have r:sc G bc r/\fm G a bc ba rest:=⟨kX hV E.1,Z⟩
  cases a<;>exact r
 | .ite e th el rest,0,a,V,bc,T,ba,hV,hT,hd,h=>h.elim
 | .gI e th rest,0,a,V,bc,T,ba,hV,hT,hd,h=>h.elim
 | .ite e th el rest,d+1,0,V,bc,T,ba,hV,hT,hd,h=>ad
 | .gI e th rest,d+1,0,V,bc,T,ba,hV,hT,hd,h=>ad
 | .ite e th el rest,d+1,a+1,V,bc,T,ba,hV,hT,hd,h=>
  ⟨dP hV 2 e h.1,ds th d a V bc T ba hV (λx hx=>hT x (by simp[ao.all,hx])) ad h.2.1,
   ds el d a V bc T ba hV (λx hx=>hT x (by simp[ao.all,hx])) ad h.2.2.1,ds rest (d+1) (a+1) V bc T ba hV (λx hx=>hT x (by simp[ao.all,hx])) hd h.2.2.2⟩
 | .gI e th rest,d+1,a+1,V,bc,T,ba,hV,hT,hd,h=>
  ⟨dP hV 2 e h.1,ds th d a V bc T ba hV (λx hx=>hT x (by simp[ao.all,hx])) ad h.2.1,ds rest (d+1) (a+1) V bc T ba hV (λx hx=>hT x (by simp[ao.all,hx])) hd h.2.2⟩
 | .ret rest,d,a,V,bc,T,ba,hV,hT,hd,h=>by
  have E:fm G d V T rest:=by cases d<;>exact h
  have Z:=ds rest d a V bc T ba hV (λx hx=>hT x (by simpa[ao.all] using hx)) hd E;cases a<;>exact Z
def hA(k:Nat):ByteArray:=⟨#[118,UInt8.ofNat (97+k % 26),UInt8.ofNat (97+k / 26 % 26)]⟩
theorem zj(bd:j<26)(aj:k<26)(h:hA j=hA k):j=k:=by
 unfold hA at h;rw[ByteArray.ext_iff] at h;have ap:=congrArg (λa:Array UInt8=>a[1]!) h;have aV:(UInt8.ofNat (97+j % 26)).toNat=(UInt8.ofNat (97+k % 26)).toNat:=congrArg UInt8.toNat ap;simp at aV;omega
theorem FF(aj:k<26):bD (hA k).data.toList=true:=by
 have:∀k:Fin 26,bD (hA k.val).data.toList=true:=by decide
 exact this ⟨k,aj⟩
structure Made(G:Env)(d:Nat)(V T:Mu)(L R:Nat)(l:List aD):Prop where
 wf:fm G d V T (.eY l)
 all:∀n∈(ao.eY l).all,∃k,R<=k/\k<L/\n=hA k
 num:(ao.eY l).num<=2*(L - R)
 le:R<=L
theorem Made.nil(G:Env)(d:Nat)(V T:Mu)(L:Nat):Made G d V T L L []:=⟨m8,λn h=>by simp[ao.eY,ao.all] at h,by simp[ao.eY,ao.num],LK _⟩
def mq(T:Mu)(L:Nat):Prop:=∀k,k<L->hA k∉T
theorem Made.free{G:Env}{V T:Mu}{R:Nat}{l:List aD}(h:Made G d V T L R l)(bD:L<=26)(J:mq T L):mq (T++decls l) R:=λk aj hm=>by
 rcases LU.1 hm with hm|hm
 .exact J k (ay h.le) hm
 .obtain⟨j,ac,ap,aV⟩:=h.all _ (yG l hm);have:=zj ad ad aV;omega
theorem Made.snoc{G:Env}{V T:Mu}{aP bE:Nat}{l:List aD}(h:Made G d V T L aP l){m:List aD}(hm:fm G d (V++decls l) (T++decls l) (.eY m))(aZ:∀n∈(ao.eY m).all,∃k,bE<=k/\k<aP/\n=hA k)
  (hn:(ao.eY m).num<=2*(aP - bE)) (hle:bE<=aP):Made G d V T L bE (l++m):=by
 refine⟨tz.2 ⟨h.wf,hm⟩,λn hn=>?_,?_,L6 hle h.le⟩
 .rw[xT] at hn;rcases LU.1 hn with hn|hn
  .obtain⟨k,ac,ap,aV⟩:=h.all n hn;exact⟨k,ad,ap,aV⟩
  .obtain⟨k,ac,ap,aV⟩:=aZ n hn;exact⟨k,ac,by have:=h.le;omega,aV⟩
 .rw[ye];have ac:=h.num;have ap:=h.le;omega
def dW(i:Nat):ByteArray:=⟨#[103,UInt8.ofNat (48+i)]⟩
def iK(i:Nat):ByteArray:=⟨#[UInt8.ofNat (97+i)]⟩
def jF(i:Nat):ByteArray:=if i=0 then iL else ⟨#[102,UInt8.ofNat (48+i)]⟩
def uz(i:Nat):ByteArray:=⟨#[112,UInt8.ofNat (48+i)]⟩
def fh:Nat->List ByteArray
 | 0=>[]
 | n+1=>uz (n+1)::fh n
def xm(ng nm nf:Nat):List ByteArray:=(List.range ng).map dW++(List.range nm).map iK++(List.range nf).map jF
def oa:List ByteArray:=xm 2 4 4++fh 2
theorem p2:oa.Nodup:=by
 have h:(oa.map λs=>s.data.toList).Nodup:=by decide
 exact(List.pairwise_map.1 h).imp λbi e=>bi (by rw[e])
theorem sX:∀s∈oa,bD s.data.toList=true:=by decide
theorem yP:mq oa 26:=by
 have h:∀k:Fin 26,(hA k.val).data.toList∉oa.map λs=>s.data.toList:=by decide
 intro k aj hm;exact h ⟨k,aj⟩ (Mf.2 ⟨_,hm,rfl⟩)
theorem wV{n:Nat}(h:n<=2):(fh n).Sublist (fh 2):=by
 obtain rfl|rfl|rfl:n=0\/n=1\/n=2:=ad
 .exact List.nil_sublist _
 .exact List.Sublist.cons _ (List.Sublist.refl _)
 .exact List.Sublist.refl _
theorem FB{ng nm nf n:Nat}(ac:ng<=2)(ap:nm<=4)(aV:nf<=4)(bz:n<=2):(xm ng nm nf++fh n).Sublist oa:=by
 unfold oa xm;refine List.Sublist.append (List.Sublist.append (List.Sublist.append ?_ ?_) ?_) (wV bz)
 .exact(List.range_sublist.2 ac).map _
 .exact(List.range_sublist.2 ap).map _
 .exact(List.range_sublist.2 aV).map _
theorem nE{f:α->ByteArray}{h:Nat->ByteArray}{l:List α}(hl:∀i x,l[i]?=some x->f x=h i):l.map f=(List.range l.length).map h:=by
 apply List.ext_getElem?
 intro i;rw[List.getElem?_map,List.getElem?_map];by_cases aX:i<l.length
 .have hx:l[i]?=some l[i]:=List.getElem?_eq_getElem aX;rw[hx,List.getElem?_range aX];simp[hl i _ hx]
 .rw[List.getElem?_eq_none ad,List.getElem?_eq_none (by simp;omega)];rfl
structure gM(p:bQ):Prop where
 ng:p.globals.length<=2
 nm:1<=p.af.length/\p.af.length<=4
 nf:1<=p.funcs.length/\p.funcs.length<=4
 gs:∀i g,p.globals[i]?=some g->g.1=dW i∧-2<=g.2/\g.2<=2
 ms:∀i m,p.af[i]?=some m->m.name=iK i/\0<=m.size/\m.size<=3/\(m.re=true->m.size=0)
 fs:∀i f,p.funcs[i]?=some f->f.name=jF i/\(∃n,n<=2/\f.params.map (·.1)=fh n)/\(i=0->f.params=[])
theorem gM.xm{p:bQ}(h:gM p):bk p=xm p.globals.length p.af.length p.funcs.length:=by
 unfold bk fC YtpkfopfkdgkfkaaGreat.xm;rw[nE λi x hx=>(h.gs i x hx).1,nE λi x hx=>(h.ms i x hx).1,nE λi x hx=>(h.fs i x hx).1]
theorem gM.sub(h:gM p)(J:f∈p.funcs):(bk p++f.params.map (·.1)).Sublist oa:=by
 obtain⟨i,aX⟩:=List.getElem?_of_mem J;obtain⟨n,hn,hp⟩:=(h.fs i f aX).2.1;rw[h.xm,hp];exact FB h.ng h.nm.2 h.nf.2 hn
theorem me:∀n,(fh n).length=n
 | 0=>rfl
 | n+1=>by simp[fh,me n]
theorem gM.ja(h:gM p)(J:f∈p.funcs):f.params.length<=2:=by
 obtain⟨i,aX⟩:=List.getElem?_of_mem J;obtain⟨n,hn,hp⟩:=(h.fs i f aX).2.1;have:=congrArg List.length hp;rw[LO,me] at this;omega
theorem gM.free(h:gM p)(J:f∈p.funcs):mq (bk p++f.params.map (·.1)) 26:=λk aj hm=>yP k aj ((h.sub J).subset hm)
theorem gM.KE(h:gM p):∃f,p.funcs[0]?=some f/\f.name=iL/\f.params=[]:=by
 have:0<p.funcs.length:=h.nf.1;have hx:p.funcs[0]?=some p.funcs[0]:=List.getElem?_eq_getElem this;exact⟨_,hx,(h.fs 0 _ hx).1,(h.fs 0 _ hx).2.2 rfl⟩
theorem gM.env(h:gM p)(J:f∈p.funcs):nU (h7 p f):=by
 have aj:∀{f:aL},f∈p.funcs->∀s∈bk p++f.params.map (·.1),bD s.data.toList=true:=λJ s hs=>sX s ((h.sub J).subset hs);refine⟨λm hm=>aj J _ ?_,λq bK=>aj J _ ?_,λg aR=>?_⟩
 .simp only[bk,LU,Mf];exact .inl (.inl (.inr ⟨m,hm,rfl⟩))
 .simp only[LU,Mf];exact .inr ⟨q,bK,rfl⟩
 .obtain⟨k,cu,rfl⟩:=Mf.1 aR;refine⟨aj cu _ ?_,h.ja cu⟩;simp only[bk,LU,Mf];exact .inl (.inr ⟨k,cu,rfl⟩)
theorem gM.vars(h:gM p)(J:f∈p.funcs):dO (fC p++cz f.params):=λs hs=>by
 refine sX s ((h.sub J).subset ?_);rcases LU.1 hs with hs|hs
 .exact LU.2 (.inl (by simp only[bk,LU];exact .inl (.inl hs)))
 .obtain⟨q,bK,rfl⟩:=Mf.1 hs;exact LU.2 (.inr (Mf.2 ⟨q,(List.mem_filter.1 bK).1,rfl⟩))
theorem gM.wf(h:gM p)(O:∀f∈p.funcs,fm (h7 p f) 4 (fC p++cz f.params) (bk p++f.params.map (·.1)) f.body)(hn:(p.funcs.map λf=>f.body.num).sum<=64):oJ p:=by
 obtain⟨f0,h0,b,a⟩:=h.KE;have av:=LN h0;have hs:=h.sub av;rw[a] at hs;simp only[Me,Mg] at hs;refine⟨λs hm=>sX s (hs.subset hm),hs.nodup p2,by have:=h.ng;omega,by have:=h.nm;omega,by have:=h.nf;omega,λg aR=>?_,λm hm=>?_,λf J=>?_,⟨0,f0,h0,b,a⟩,hn⟩
 .obtain⟨i,aX⟩:=List.getElem?_of_mem aR;have:=(h.gs i g aX).2;omega
 .obtain⟨i,aX⟩:=List.getElem?_of_mem hm;have:=(h.ms i m aX).2;exact⟨this.1,ad,this.2.2⟩
 .refine⟨(h.env J).params,h.ja J,(h.sub J).nodup p2,O f J⟩
def ou(u:aA)(s:ak)(t:Int):Option (Int×Int):=
 match ey s t,ek u s t with
 | some f,some x=>if x.op=4 then
   if (bH u s f x.place).2≠0 then none else if free u.af s.table (bH u s f x.place).1 t=true then none
   else some ((bH u s f x.place).1,(j4 s.table (bH u s f x.place).1).owner - 1) else none
 | _,_=>none
def JX(u:aA)(s:ak)(t:Int):Bool:=(ek u s t).isSome && (ou u s t).isNone
section
variable {u:aA} {D:Nat} {s:ak} {t:Int}
theorem ue(h:ey s t=none):ek u s t=none:=by unfold ek;rw[h];rfl
theorem mm{r:Int×Int}(h:ou u s t=some r):∃f x,ey s t=some f/\ek u s t=some x/\x.op=4/\(bH u s f x.place).2=0/\free u.af s.table (bH u s f x.place).1 t=false/\
  r=((bH u s f x.place).1,(j4 s.table (bH u s f x.place).1).owner - 1):=by
 unfold ou at h;split at h
 .rename_i f x J hx;split at h
  .rename_i cw;split at h
   .cases h
   .rename_i E;split at h
    .cases h
    .rename_i cg;injection h with h;exact⟨f,x,J,hx,cw,ad,by simpa using cg,h.symm⟩
  .cases h
 .cases h
theorem Gb(hU:da u)(hS:aW u D s):JX u s t=(cb u s t).2:=by
 unfold JX ou cb
 cases J:ey s t with
 | none=>rw[ue J];rfl
 | some f=>
  cases hx:ek u s t with
  | none=>rfl
  | some x=>
   simp only[Option.isSome_some,Bool.true_and];unfold b5;by_cases ac:x.op=1\/x.op=6
   .rw[if_pos ac,if_neg ad];simp only[]
    repeat' split
    all_goals rfl
   .rw[if_neg ac];by_cases ap:x.op=2\/x.op=3
    .rw[if_pos ap,if_neg ad];simp only[]
     repeat' split
     all_goals rfl
    .rw[if_neg ap];by_cases bz:x.op=4
     .rw[if_pos bz,if_pos (Or.inl bz)];simp only[bz,if_true]
      repeat' split
      all_goals first|rfl|simp_all
     .rw[if_neg bz];simp only[]
      repeat' split
      all_goals first|rfl|omega
def j8:VE->Prop
 | .iI _=>False
 | .un _ x=>j8 x
 | .bin _ x y=>j8 x/\j8 y
 | _=>True
theorem k8(g ag l:List Int):∀x:VE,j8 x->ev g l x=ev ag l x
 | .num _,_=>rfl
 | .hg _,_=>rfl
 | .loc _,_=>rfl
 | .iI _,h=>h.elim
 | .un op x,h=>by
  have Z:=k8 g ag l x h
  simp only[ev,Z]
 | .bin op x y,h=>by
  have i:=k8 g ag l x h.1;have c:=k8 g ag l y h.2;simp only[ev,i,c]
structure xH(u:aA)(s:ak)(t e o:Int):Prop where
 waits:ou u s t=some (e,o)
 o0:0<=o
 j8:∀x v,ek u s t=some x->x.place.at_=some v->j8 v
theorem v9{f:al}{p:bU}(h:∀v,p.at_=some v->j8 v):bH u Q f p=bH u s f p:=by
 have aX:cV u Q f p=cV u s f p:=by
  unfold cV
  cases hp:p.at_ with
  | none=>rfl
  | some v=>simp only[k8 Q.globals s.globals f.ints v (h v hp)]
 unfold bH;rw[aX]
theorem xH.ai(h:xH u s t e o)(ht:ey Q t=ey s t)(ah:j4 Q.table e=j4 s.table e):xH u Q t e o:=by
 obtain⟨f,x,J,hx,cw,E,cg,a5⟩:=mm h.waits;have g:ek u Q t=some x:=by
  unfold ek at hx ⊢;rw[ht];exact hx
 have he:=v9 (u:=u) (s:=s) (Q:=Q) (f:=f) (p:=x.place) λv bE=>h.j8 x v hx bE;injection a5 with ar bJ;refine⟨?_,h.o0,λy v bb bE=>?_⟩
 .unfold ou;rw[ht,J,g];simp only[];rw[if_pos cw,he,if_neg ad];have a:free u.af Q.table (bH u s f x.place).1 t=false:=by
   rw[<-ar];rw[<-ar] at cg;unfold free at cg ⊢;rw[ah];exact cg
  rw[if_neg (by simp[a]),<-ar,ah,<-ar] at *;simp[bJ]
 .rw[g] at bb;injection bb with bb;subst bb;exact h.j8 x v hx bE
theorem ih{l:List (List al)}{i:Nat}{g:List al->List al}(h:i≠j):(l.modify i g)[j]?=l[j]?:=by
 rw[List.getElem?_modify]
 cases l[j]? with
 | none=>rfl
 | some y=>simp[h]
theorem vc{s:ak}(J:Q.fault=s.fault)(h:Q.threads[t.toNat]?=s.threads[t.toNat]?):ey Q t=ey s t:=by
 unfold ey;rw[J,h]
theorem xe(hU:da u){p:Int}(ht:0<=t/\t<s.threads.length)(hp:p≠t)(dp:s.fault=0)(J:(cb u s p).1.fault=0):ey (cb u s p).1 t=ey s t:=by
 refine vc (J.trans dp.symm) ?_;unfold cb at J ⊢
 cases bK:ey s p with
 | none=>rfl
 | some f=>
  have V:0<=p:=(jR bK).2.1;have bi:p.toNat≠t.toNat:=ad
  cases hx:ek u s p with
  | none=>rfl
  | some x=>
   simp only[];unfold b5;simp only[]
   repeat' split
   all_goals simp only[bt,qv,uA]
   all_goals first
    | rfl
    | exact ih bi
    | (rw[ih bi];exact ih bi)
    | (rw[List.getElem?_append_left (by rw[List.length_modify];omega)];exact ih bi)
theorem EP{T:List cx}{l p:Int}(h0:0<=a9 X e\/True)(he:0<=e)(bn:(j4 T e).owner≠0)(hp:(j4 T e).owner≠p+1):j4 (fL X T l p) e=j4 T e:=by
 unfold fL;split
 .rename_i cg;by_cases g:l=e
  .subst g;unfold free at cg;simp[bn,hp] at cg
  .have a:0<=l:=by
    unfold free at cg;simp only[LY,Ml] at cg;exact(eC.1 cg.1.1).1
   unfold j4;rw[List.getElem?_set_ne ad]
 .rfl
theorem xu{T:List cx}{l p:Int}(he:0<=e)(hp:(j4 T e).owner≠p+1):j4 (c5 X T l p) e=j4 T e:=by
 unfold c5;split
 .rename_i ah;by_cases g:l=e
  .subst g;unfold heldBy at ah;simp[hp] at ah
  .have a:0<=l:=by
    unfold heldBy at ah;simp only[LY,Ml] at ah;exact(eC.1 ah.1.1).1
   unfold j4;rw[List.getElem?_set_ne ad]
 .rfl
theorem xf{p:Int}(he:0<=e)(bn:(j4 s.table e).owner≠0)(hp:(j4 s.table e).owner≠p+1):j4 (cb u s p).1.table e=j4 s.table e:=by
 unfold cb
 cases bK:ey s p with
 | none=>rfl
 | some f=>
  cases hx:ek u s p with
  | none=>rfl
  | some x=>
   simp only[];unfold b5;simp only[]
   repeat' split
   all_goals first
    | rfl
    | exact EP (.inr trivial) he bn hp
    | exact xu he hp
theorem kf(h:(cb u s t).2=false):(cb u s t).1=s:=by
 unfold cb at h ⊢
 cases bK:ey s t with
 | none=>rfl
 | some f=>
  cases hx:ek u s t with
  | none=>rfl
  | some x=>
   rw[bK,hx] at h;simp only[] at h ⊢;unfold b5 at h ⊢;simp only[] at h ⊢
   repeat' split
   all_goals first
    | rfl
    | (exfalso;simp_all;done)
    | (exfalso;revert h;repeat' split;all_goals simp_all)
theorem vf(hU:da u)(hS:aW u D s)(h:ou u s t=some (e,o)):0<=e/\(j4 s.table e).owner=o+1/\0<=t/\t<s.threads.length:=by
 obtain⟨f,x,J,hx,cw,E,cg,a5⟩:=mm h;injection a5 with ar bJ;have ht:=hS.top J;refine⟨?_,by rw[ar];omega,ht.2.1,ht.2.2⟩;obtain⟨p,y,hp,bg,bb,len,hlen,aX,_⟩:=p9 hU ht.1;have c:x=y:=by
  unfold ek at hx;rw[J] at hx;simp only[Option.bind_some,hp,bb,Mj] at hx;exact hx.symm
 subst c;obtain⟨q,bK,_,_,aj⟩:=ht.1.ex;rw[hp] at bK;injection bK with bK;subst bK;have bi:c4 (bx u) p.locals p.an x.place:=by
  rcases aX with⟨ac,_⟩|⟨ac,_⟩|⟨ac,_,ap⟩|⟨ac,_⟩|⟨ac,_⟩|⟨ac,_⟩
  .omega
  .omega
  .exact ap
  .omega
  .omega
  .omega
 have:=(jB (s:=s) hU ht.1 ad bi).2 ad;rw[ar];exact this.1
theorem tx{r:Int×Int}(h:ou u s t=some r):JX u s t=false:=by unfold JX;rw[h];simp
def pv(u:aA)(s:ak)(d:List Int):Prop:=∀t∈d,∃e o,xH u s t e o/\o∈d
theorem pv.step{d:List Int}(hU:da u)(hS:aW u D s)(h:pv u s d)(p:Int)(J:(cb u s p).1.fault=0):pv u (cb u s p).1 d:=by
 by_cases hp:p∈d
 .obtain⟨e,o,hs,_⟩:=h p hp;rw[kf (by rw[<-Gb hU hS];exact tx hs.waits)];exact h
 .intro t ht;obtain⟨e,o,hs,bn⟩:=h t ht;obtain⟨f,x,aC,_⟩:=mm hs.waits;obtain⟨ac,ap,aV,bz⟩:=vf hU hS hs.waits;have dM:p≠t:=λe=>hp (by rw[e];exact ht);have c3:p≠o:=λe=>hp (by rw[e];exact bn);have h0:=hs.o0;exact⟨e,o,hs.ai (xe hU ⟨aV,bz⟩ dM (jR aC).1 J) (xf ac ad ad),bn⟩
end
end Go.Proofs.YtpkfopfkdgkfkaaGreat
