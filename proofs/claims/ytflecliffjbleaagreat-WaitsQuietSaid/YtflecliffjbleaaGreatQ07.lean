/- Part 7 of the proof. No condition of its own. -/
import Derived.Test.YtflecliffjbleaaGreatQ06
namespace Go.Proofs.YtflecliffjbleaaGreat
open Go.RowKit Go.Proofs.Tryz
set_option maxRecDepth 1000000
set_option maxHeartbeats 25600000
set_option linter.unusedVariables false
variable{a:Atom}{l m:List Atom}{s:List UInt8}{c:UInt8}{p:bD}
def aZ:VE->Int
 | .num _=>1
 | .gT _=>2
 | .loc _=>18
 | .iz _=>19
 | .un op _=>op
 | .bin op _ _=>op
def cU(op:Int):Int:=if op=17 then 0 else if op=16 then 1 else if 10<=op/\op<=15 then 2 else if op=8\/op=9 then 3 else if 5<=op/\op<=7 then 4 else if op=3\/op=4 then 5 else 6
def dx(op arg:Int)(second:Bool):Bool:=decide (cU arg<cU op) || (cU arg == cU op && second)
def gM(op:Int):List UInt8:=
 if op=5 then [42] else if op=6 then [47] else if op=7 then [37] else if op=8 then [43] else if op=9 then [45] else if op=10 then [60] else if op=11 then [60,61]
 else if op=12 then [62] else if op=13 then [62,61] else if op=14 then [61,61] else if op=15 then [33,61] else if op=16 then [38,38] else [124,124]
def par(b:Bool)(aI:List Atom):List Atom:=if b then .sg [40]::(aI++[.sg [41]]) else aI
def cd:VE->List Atom
 | .num n=>[.num (jy n.toNat)]
 | .gT s=>[.word s.data.toList]
 | .loc _=>[]
 | .iz _=>[]
 | .un op x=>.sg (if op=3 then [45] else [33])::par (dx op (aZ x) false) (cd x)
 | .bin op x y=>par (dx op (aZ x) false) (cd x)++(.ws 32::.sg (gM op)::.ws 32::par (dx op (aZ y) true) (cd y))
def VE.src(N:LQ):Nat->VE->Prop
 | _,.num n=>0<=n/\n<4611686018427387904
 | _,.gT s=>s∈N
 | _,.loc _=>False
 | _,.iz _=>False
 | 0,.un _ _=>False
 | 0,.bin _ _ _=>False
 | d+1,.un op x=>(op=3\/op=4)/\VE.src N d x
 | d+1,.bin op x y=>(5<=op/\op<=17)/\VE.src N d x/\VE.src N d y
def dE(N:LQ):Prop:=∀s∈N,bq s.data.toList=true
structure lH(aI:List Atom):Prop where
 chain:Atom.chain aI
 first:∃a,aI.head?=some a/\tt a
 last:∃a,aI.getLast?=some a/\GO a
theorem getLast_append{aI f:List Atom}(h:f.getLast?=some a):(aI++f).getLast?=some a:=by
 rw[List.getLast?_append,h];rfl
theorem head_append{aI f:List Atom}(h:aI.head?=some a):(aI++f).head?=some a:=by
 rw[List.head?_append,h];rfl
theorem cN{aI:List Atom}(aW:a.fG)(h:Atom.chain aI)(J:∀b,aI.head?=some b->a.fits b):Atom.chain (a::aI):=
 dZ [a] aI aW h λx b hx O=>by
  simp at hx;subst hx;exact J b O
theorem cb(h:s∈eh\/s∈eW):(Atom.sg s).fG:=h.symm
theorem lH.par{aI:List Atom}(h:lH aI)(b:Bool):lH (par b aI):=by
 cases b
 .exact h
 .obtain⟨a,aW,hs⟩:=h.first;obtain⟨z,ba,he⟩:=h.last;refine⟨?_,⟨_,rfl,.inr (.inr (.inr rfl))⟩,⟨.sg [41],?_,.inr (.inl rfl)⟩⟩
  .refine cN (cb (.inl (by decide))) (dZ _ _ h.chain (cb (.inl (by decide))) λx y hx a4=>?_) λy a4=>?_
   .rw[ba] at hx;injection hx with hx;subst hx;simp at a4;subst a4;exact oV _ he _ (.inl rfl)
   .rw[head_append aW] at a4;injection a4 with a4;subst a4;exact nP _ (.inr (.inr (.inl rfl))) _ hs
  .show (Atom.sg [40]::(aI++[Atom.sg [41]])).getLast?=some (.sg [41])
   rw[<-List.cons_append];exact getLast_append rfl
theorem wZ(op:Int):gM op∈eh\/gM op∈eW:=by
 unfold gM
 repeat' split
 all_goals first|exact .inl (by decide)|exact .inr (by decide)
theorem dz(h:bq s=true):(Atom.word s).fG:=by
 cases s with
 | nil=>simp[bq] at h
 | cons c l=>
  simp only[bq,Ln,LI] at h;exact⟨⟨c,l,rfl,h.1.1.1,h.1.1.2⟩,.inr h.1.2⟩
theorem qx{n:Nat}(h:n<=9223372036854775807):(Atom.num (jy n)).fG:=by
 obtain⟨ae,aD⟩:=tV n;exact⟨aD,ae,by rw[yZ n h];omega⟩
theorem Et{aI:List Atom}(hs:s=[45]\/s=[33])(h:lH aI):lH (.sg s::aI):=by
 obtain⟨a,aW,bk⟩:=h.first;obtain⟨z,ba,he⟩:=h.last;refine⟨cN (cb (.inl (by rcases hs with rfl|rfl<;>decide))) h.chain λb O=>?_,⟨_,rfl,by rcases hs with rfl|rfl<;>simp[tt]⟩,⟨z,?_,he⟩⟩
 .rw[aW] at O;injection O with O;subst O;exact nP _ (by rcases hs with rfl|rfl<;>simp) _ bk
 .show ([Atom.sg s]++aI).getLast?=some z
  exact getLast_append ba
theorem dY{N:LQ}(hN:dE N):∀(d:Nat) (x:VE),x.src N d->lH (cd x)
 | d,.num n,h=>by
  have q:0<=n/\n<4611686018427387904:=by cases d<;>exact h
  have aK:=qx (n:=n.toNat) ab
  exact⟨aK,⟨_,rfl,.inl ⟨rfl,aK⟩⟩,⟨_,rfl,.inl rfl⟩⟩
 | d,.gT s,h=>by
  have q:s∈N:=by cases d<;>exact h
  have aK:=dz (hN s q)
  exact⟨aK,⟨_,rfl,.inl ⟨rfl,aK⟩⟩,⟨_,rfl,.inl rfl⟩⟩
 | d,.loc _,h=>by cases d<;>exact h.elim
 | d,.iz _,h=>by cases d<;>exact h.elim
 | 0,.un _ _,h=>h.elim
 | 0,.bin _ _ _,h=>h.elim
 | d+1,.un op x,h=>by
  unfold cd
  exact Et (by split<;>simp) ((dY hN d x h.2).par (dx op (aZ x) false))
 | d+1,.bin op x y,h=>by
  have i:=(dY hN d x h.2.1).par (dx op (aZ x) false);have c:=(dY hN d y h.2.2).par (dx op (aZ y) true);unfold cd;generalize par (dx op (aZ x) false) (cd x)=aI at *;generalize par (dx op (aZ y) true) (cd y)=f at *;obtain⟨a,aW,bk⟩:=i.first;obtain⟨z,ba,he⟩:=c.last;refine⟨dZ _ _ i.chain ?_ ?_,⟨a,head_append aW,bk⟩,⟨z,getLast_append ?_,he⟩⟩
  .refine cN rfl (cN (cb (wZ op)) (cN rfl c.chain λb _=>po _ b) λb O=>?_) λb _=>po _ b;simp at O;subst O;exact oX _ _ rfl
  .intro x y _ a4;simp at a4;subst a4;exact oX _ _ rfl
  .show ([Atom.ws 32,Atom.sg (gM op),Atom.ws 32]++f).getLast?=some z
   exact getLast_append ba
structure Env where
 ae:List bF
 params:List (ByteArray×Bool)
 funcs:List (ByteArray×List (ByteArray×Bool))
def rf(G:Env)(V:LQ)(r:eN):Prop:=
 (∃m∈G.ae,m.name=r.name/\(0<m.size->∃e,r.idx=some e/\e.src V 2)/\(¬0<m.size->r.idx=none))\/((r.name,true)∈G.params/\r.idx=none)
def Je(G:Env)(V:LQ)(p:ByteArray×Bool):dd->Prop
 | .mx r=>p.2=true/\rf G V r
 | .ex e=>p.2=false/\e.src V 2
def h2(G:Env)(V:LQ):List (ByteArray×Bool)->List dd->Prop
 | [],[]=>True
 | p::ps,a::aI=>Je G V p a/\h2 G V ps aI
 | _,_=>False
def eM(G:Env):(d:Nat)->(V T:LQ)->ak->Prop
 | _,_,_,.nil=>True
 | d,V,T,.set true n e rest=>bq n.data.toList=true/\n∉T/\e.src V 2/\eM G d (V++[n]) (T++[n]) rest
 | d,V,T,.set false n e rest=>n∈V/\e.src V 2/\eM G d V T rest
 | d,V,T,.call _ n aI rest=>(∃ps,(n,ps)∈G.funcs/\h2 G V ps aI)/\eM G d V T rest
 | d,V,T,.lock _ r rest=>rf G V r/\eM G d V T rest
 | 0,_,_,.ite ..=>False
 | 0,_,_,.gp ..=>False
 | d+1,V,T,.ite e th el rest=>e.src V 2/\eM G d V T th/\eM G d V T el/\eM G (d+1) V T rest
 | d+1,V,T,.gp e th rest=>e.src V 2/\eM G d V T th/\eM G (d+1) V T rest
 | d,V,T,.ret rest=>eM G d V T rest
def ak.isNil:ak->Bool
 | .nil=>true
 | _=>false
def ak.num:ak->Nat
 | .nil=>0
 | .set _ _ _ rest=>rest.num+1
 | .call _ _ _ rest=>rest.num+1
 | .lock _ _ rest=>rest.num+1
 | .ite _ th el rest=>th.num+el.num+rest.num+1
 | .gp _ th rest=>th.num+rest.num+1
 | .ret rest=>rest.num+1
def kw(s:List UInt8):Atom:=.word s
def iq(r:eN):List Atom:=.word r.name.data.toList::(match r.idx with|none=>[]|some e=>.sg [91]::(cd e++[.sg [93]]))
def fK:List UInt8:=[109,117,116,101,120]
def fy:dd->List Atom
 | .mx r=>kw fK::.ws 32::iq r
 | .ex e=>cd e
def dT:List (List Atom)->List Atom
 | []=>[]
 | [a]=>a
 | a::b::l=>a++(.sg [44]::.ws 32::dT (b::l))
def iS(aI:List dd):List Atom:=.sg [40]::(dT (aI.map fy)++[.sg [41]])
def ft(n:Nat):List Atom:=List.replicate n (.ws 9)
def aV:Nat->ak->List Atom
 | _,.nil=>[]
 | t,.set v n e rest=>ft t++((if v then [kw [118,97,114],.ws 32] else [])++(.word n.data.toList::.ws 32::.sg [61]::.ws 32::(cd e++(.sg [59]::.ws 10::aV t rest))))
 | t,.call g n aI rest=>ft t++((if g then [kw [103,111],.ws 32] else [])++(.word n.data.toList::(iS aI++(.sg [59]::.ws 10::aV t rest))))
 | t,.lock u r rest=>ft t++(kw (if u then [117,110,108,111,99,107] else [108,111,99,107])::.ws 32::(iq r++(.sg [59]::.ws 10::aV t rest)))
 | t,.ite e th el rest=>ft t++(kw [105,102]::.ws 32::(cd e++(.ws 32::.sg [123]::.ws 10::(aV (t+1) th++(ft t++(.sg [125] ::
   ((if el.isNil then [] else .ws 32::kw [101,108,115,101]::.ws 32::.sg [123]::.ws 10::(aV (t+1) el++(ft t++[.sg [125]])))++(.ws 10::aV t rest))))))))
 | t,.gp e th rest=>ft t++(kw [119,104,105,108,101]::.ws 32::(cd e++(.ws 32::.sg [123]::.ws 10::(aV (t+1) th++(ft t++(.sg [125]::.ws 10::aV t rest))))))
 | t,.ret rest=>ft t++(kw [114,101,116,117,114,110]::.sg [59]::.ws 10::aV t rest)
theorem fw(h:s∈qY):(kw s).fG:=by
 have key:∀s∈qY,(match s with|[]=>false|c::l=>bM c && l.all b1)=true:=by decide
 have:=key s h
 cases s with
 | nil=>cases this
 | cons c l=>
  simp only[Ln] at this;exact⟨⟨c,l,rfl,this.1,this.2⟩,.inl (by simpa[cn] using h)⟩
section
variable {aI f:List Atom}
theorem c5(hc:oM c=true)(h:Atom.chain aI):Atom.chain (.ws c::aI):=cN hc h λb _=>po c b
theorem bZ(aW:a.fG)(hc:oM c=true)(h:Atom.chain (.ws c::aI)):Atom.chain (a::.ws c::aI):=
 cN aW h λb O=>by
  simp at O;subst O;exact oX _ _ hc
theorem ir(aW:a.fG)(hl:a.jF=true)(h:Atom.chain (.sg s::aI)):Atom.chain (a::.sg s::aI):=
 cN aW h λb O=>by
  simp at O;subst O;exact xI _ _ hl rfl
theorem eY(ae:lH aI)(hs:s=[41]\/s=[93]\/s=[59]\/s=[44])(h:Atom.chain (.sg s::f)):Atom.chain (aI++.sg s::f):=
 dZ _ _ ae.chain h λa b aW O=>by
  obtain⟨z,ba,he⟩:=ae.last;rw[ba] at aW;injection aW with aW;subst aW;simp at O;subst O;exact oV _ he _ hs
theorem rI(ae:Atom.chain aI)(hc:oM c=true)(h:Atom.chain (.ws c::f)):Atom.chain (aI++.ws c::f):=
 dZ _ _ ae h λa b _ O=>by
  simp at O;subst O;exact oX _ _ hc
theorem oT(hs:s=[40]\/s=[91])(ae:lH aI)(h:Atom.chain (aI++f)):Atom.chain (.sg s::(aI++f)):=
 cN (cb (.inl (by rcases hs with rfl|rfl<;>decide))) h λb O=>by
  obtain⟨a,aW,bk⟩:=ae.first;rw[head_append aW] at O;injection O with O;subst O;exact nP _ (by rcases hs with rfl|rfl<;>simp) _ bk
def hA(aI:List Atom):Prop:=Atom.chain aI/\∀a,aI.getLast?=some a->∃c,a=.ws c
theorem hA.app(h:hA aI)(O:Atom.chain f):Atom.chain (aI++f):=
 dZ _ _ h.1 O λa b aW _=>by
  obtain⟨c,rfl⟩:=h.2 a aW;exact po _ _
theorem gm(n:Nat):hA (ft n):=by
 induction n with
 | zero=>exact⟨trivial,λa h=>by simp[ft] at h⟩
 | succ n ao=>
  refine⟨c5 rfl ao.1,λa h=>?_⟩;simp only[ft,List.getLast?_replicate] at h;simp at h;exact⟨9,h.symm⟩
theorem uq(h:∀a,m.getLast?=some a->∃c,a=.ws c)(hm:m≠[])(aW:(l++m).getLast?=some a):∃c,a=.ws c:=by
 rw[List.getLast?_append] at aW
 cases hl:m.getLast? with
 | none=>exact absurd (List.getLast?_eq_none_iff.1 hl) hm
 | some b=>
  rw[hl] at aW;simp at aW;subst aW;exact h _ hl
end
theorem pL{G:Env}{V:LQ}(hV:dE V)(hM:∀m∈G.ae,bq m.name.data.toList=true)(aY:∀p∈G.params,bq p.1.data.toList=true)(r:eN)(h:rf G V r):lH (iq r):=by
 have hn:(Atom.word r.name.data.toList).fG:=by
  rcases h with⟨m,hm,he,_⟩|⟨hp,_⟩
  .rw[<-he];exact dz (hM m hm)
  .exact dz (aY _ hp)
 unfold iq
 cases ak:r.idx with
 | none=>exact⟨hn,⟨_,rfl,.inl ⟨rfl,hn⟩⟩,⟨_,rfl,.inl rfl⟩⟩
 | some e=>
  have hs:e.src V 2:=by
   exact Gv
  have ao:=dY hV 2 e hs;refine⟨ir hn rfl (oT (.inr rfl) ao (eY ao (.inr (.inl rfl)) (cb (.inl (by decide))))),⟨_,rfl,.inl ⟨rfl,hn⟩⟩,⟨.sg [93],?_,.inr (.inr rfl)⟩⟩;show ((Atom.word r.name.data.toList::.sg [91]::cd e)++[Atom.sg [93]]).getLast?=_
  exact getLast_append rfl
theorem nE:∀(l:List (List Atom)),(∀a∈l,lH a)->l≠[]->lH (dT l)
 | [],_,h=>absurd rfl h
 | [a],h,_=>h a (by simp)
 | a::b::l,h,_=>by
  have ao:=nE (b::l) (λx hx=>h x (by simp[hx])) (by simp);have aW:=h a (by simp);obtain⟨x,hx,hs⟩:=aW.first;obtain⟨z,ba,he⟩:=ao.last;refine⟨eY aW (.inr (.inr (.inr rfl))) (bZ (cb (.inl (by decide))) rfl (c5 rfl ao.chain)),⟨x,head_append hx,hs⟩,⟨z,?_,he⟩⟩;show (a++([Atom.sg [44],Atom.ws 32]++dT (b::l))).getLast?=some z
  exact getLast_append (getLast_append ba)
section
variable {G:Env} {V:LQ} (hV:dE V) (hM:∀m∈G.ae,bq m.name.data.toList=true) (aY:∀p∈G.params,bq p.1.data.toList=true)
include hV hM aY
theorem vV(p:ByteArray×Bool)(a:dd)(h:Je G V p a):lH (fy a):=by
 cases a with
 | ex e=>exact dY hV 2 e h.2
 | mx r=>
  have ao:=pL hV hM aY r h.2;have ai:(kw fK).fG:=fw (by decide);obtain⟨z,ba,he⟩:=ao.last;refine⟨bZ ai rfl (c5 rfl ao.chain),⟨_,rfl,.inl ⟨rfl,ai⟩⟩,⟨z,?_,he⟩⟩;show ([kw fK,Atom.ws 32]++iq r).getLast?=some z
  exact getLast_append ba
theorem vj:∀(ps:List (ByteArray×Bool)) (aI:List dd),h2 G V ps aI->(∀a∈aI.map fy,lH a)/\aI.length=ps.length
 | [],[],_=>⟨λa h=>by simp at h,rfl⟩
 | p::ps,a::aI,h=>by
  obtain⟨ae,aD⟩:=vj ps aI h.2;refine⟨λx hx=>?_,by simp[aD]⟩;simp only[Lh,Lr] at hx;rcases hx with rfl|hx
  .exact vV hV hM aY p a h.1
  .exact ae x hx
 | [],_::_,h=>h.elim
 | _::_,[],h=>h.elim
theorem rk(ps:List (ByteArray×Bool))(aI:List dd)(h:h2 G V ps aI){f:List Atom}(O:Atom.chain (.sg [59]::f)):Atom.chain (iS aI++.sg [59]::f):=by
 have r:Atom.chain (.sg [41]::.sg [59]::f):=cN (cb (.inl (by decide))) O λb O=>by
  simp at O;subst O;exact oV _ (.inr (.inl rfl)) _ (.inr (.inr (.inl rfl)))
 obtain⟨ae,_⟩:=vj hV hM aY ps aI h
 cases aI with
 | nil=>
  refine cN (cb (.inl (by decide))) r λb O=>?_
  exact GB
 | cons a l=>
  have ao:=nE ((a::l).map fy) ae (by simp);show Atom.chain (Atom.sg [40]::((dT ((a::l).map fy)++[Atom.sg [41]])++Atom.sg [59]::f))
  rw[Lp];exact oT (.inl rfl) ao (eY ao (.inl rfl) r)
end
def lJ(l:List Atom):Prop:=l≠[]/\∀a,l.getLast?=some a->∃c,a=.ws c
theorem lJ.cons{x:Atom}(h:lJ l):lJ (x::l):=
 ⟨by simp,λa aW=>uq (l:=[x]) h.2 h.1 (by simpa using aW)⟩
theorem lJ.app(h:lJ m):lJ (l++m):=
 ⟨by have:=h.1;simp[this],λa aW=>uq h.2 h.1 aW⟩
theorem lJ.nl(h:∀a,l.getLast?=some a->∃c,a=.ws c):lJ (.ws 10::l):=by
 refine⟨by simp,λa aW=>?_⟩
 cases l with
 | nil=>simp at aW;exact⟨10,aW.symm⟩
 | cons x l=>exact h a (by rw[List.getLast?_cons_cons] at aW;exact aW)
theorem dI:∀(b:ak) (t:Nat) (a:Atom),(aV t b).getLast?=some a->∃c,a=.ws c
 | .nil,t,a,h=>by simp[aV] at h
 | .set v n e rest,t,a,h=>by
  unfold aV at h
  exact(lJ.app (.app (.cons (.cons (.cons (.cons (.app (.cons (.nl (dI rest t)))))))))).2 a h
 | .call g n aI rest,t,a,h=>by
  unfold aV at h
  exact(lJ.app (.app (.cons (.app (.cons (.nl (dI rest t))))))).2 a h
 | .lock u r rest,t,a,h=>by
  unfold aV at h
  exact(lJ.app (.cons (.cons (.app (.cons (.nl (dI rest t))))))).2 a h
 | .ite e th el rest,t,a,h=>by
  unfold aV at h
  exact(lJ.app (.cons (.cons (.app (.cons (.cons (.cons (.app (.app (.cons (.app (.nl (dI rest t))))))))))))).2 a h
 | .gp e th rest,t,a,h=>by
  unfold aV at h
  exact(lJ.app (.cons (.cons (.app (.cons (.cons (.cons (.app (.app (.cons (.nl (dI rest t)))))))))))).2 a h
 | .ret rest,t,a,h=>by
  unfold aV at h;exact(lJ.app (.cons (.cons (.nl (dI rest t))))).2 a h
structure nZ(G:Env):Prop where
 ae:∀m∈G.ae,bq m.name.data.toList=true
 params:∀p∈G.params,bq p.1.data.toList=true
 funcs:∀f∈G.funcs,bq f.1.data.toList=true/\f.2.length<=2
theorem j5{V:LQ}{n:ByteArray}(h:dE V)(hn:bq n.data.toList=true):dE (V++[n]):=by
 intro s hs;simp only[Lk,LF] at hs;rcases hs with hs|rfl
 .exact h s hs
 .exact hn
theorem cW{G:Env}(hG:nZ G):∀(b:ak) (d t:Nat) (V T:LQ),dE V->eM G d V T b->Atom.chain (aV t b)
 | .nil,d,t,V,T,_,_=>trivial
 | .set v n e rest,d,t,V,T,hV,h=>by
  have a:(Atom.sg [59]).fG:=cb (.inl (by decide));have f:(Atom.sg [61]).fG:=cb (.inl (by decide));unfold aV
  cases v with
  | true=>
   have q:bq n.data.toList=true/\n∉T/\e.src V 2/\eM G d (V++[n]) (T++[n]) rest:=by cases d<;>exact h
   have ao:=cW hG rest d t _ _ (j5 hV q.1) q.2.2.2;have aE:=dY hV 2 e q.2.2.1
   exact(gm t).app (bZ (fw (by decide)) rfl (c5 rfl (bZ (dz q.1) rfl (c5 rfl (bZ f rfl (c5 rfl (eY aE (.inr (.inr (.inl rfl))) (bZ a rfl (c5 rfl ao)))))))))
  | false=>
   have q:n∈V/\e.src V 2/\eM G d V T rest:=by cases d<;>exact h
   have ao:=cW hG rest d t _ _ hV q.2.2;have aE:=dY hV 2 e q.2.1
   exact(gm t).app (bZ (dz (hV n q.1)) rfl (c5 rfl (bZ f rfl (c5 rfl (eY aE (.inr (.inr (.inl rfl))) (bZ a rfl (c5 rfl ao)))))))
 | .call g n aI rest,d,t,V,T,hV,h=>by
  have q:(∃ps,(n,ps)∈G.funcs/\h2 G V ps aI)/\eM G d V T rest:=by cases d<;>exact h
  obtain⟨⟨ps,J,has⟩,aQ⟩:=q;have ao:=cW hG rest d t _ _ hV aQ;have a:(Atom.sg [59]).fG:=cb (.inl (by decide));have bp:=rk hV hG.ae hG.params ps aI has (bZ a rfl (c5 (c:=10) rfl ao));have be:Atom.chain (.word n.data.toList::(iS aI++(.sg [59]::.ws 10::aV t rest))):=ir (dz (hG.funcs _ J).1) rfl bp;unfold aV
  cases g with
  | true=>exact(gm t).app (bZ (fw (by decide)) rfl (c5 rfl be))
  | false=>exact(gm t).app be
 | .lock u r rest,d,t,V,T,hV,h=>by
  have q:rf G V r/\eM G d V T rest:=by cases d<;>exact h
  have ao:=cW hG rest d t _ _ hV q.2;have cg:=pL hV hG.ae hG.params r q.1;have a:(Atom.sg [59]).fG:=cb (.inl (by decide));unfold aV
  exact(gm t).app (bZ (fw (by cases u<;>decide)) rfl (c5 rfl (eY cg (.inr (.inr (.inl rfl))) (bZ a rfl (c5 rfl ao)))))
 | .ite e th el rest,0,t,V,T,hV,h=>h.elim
 | .gp e th rest,0,t,V,T,hV,h=>h.elim
 | .ite e th el rest,d+1,t,V,T,hV,h=>by
  have j:=cW hG th d (t+1) _ _ hV h.2.1;have o:=cW hG el d (t+1) _ _ hV h.2.2.1;have ao:=cW hG rest (d+1) t _ _ hV h.2.2.2;have aE:=dY hV 2 e h.1;have k:(Atom.sg [123]).fG:=cb (.inl (by decide));have i:(Atom.sg [125]).fG:=cb (.inl (by decide));have e1:hA (aV (t+1) th):=⟨j,dI th _⟩
  have e2:hA (aV (t+1) el):=⟨o,dI el _⟩
  have bj:Atom.chain (.ws 10::aV t rest):=c5 rfl ao;have tail:Atom.chain (.sg [125]::((if el.isNil then [] else .ws 32::kw [101,108,115,101]::.ws 32::.sg [123]::.ws 10::(aV (t+1) el++(ft t++[.sg [125]])))++(.ws 10::aV t rest))):=by
   have ce:Atom.chain (.sg [125]::((.ws 32::kw [101,108,115,101]::.ws 32::.sg [123]::.ws 10::(aV (t+1) el++(ft t++[.sg [125]])))++(.ws 10::aV t rest))):=by
    refine bZ i rfl (c5 rfl (bZ (fw (by decide)) rfl (c5 rfl (bZ k rfl (c5 rfl ?_)))));show Atom.chain ((aV (t+1) el++(ft t++[Atom.sg [125]]))++(Atom.ws 10::aV t rest))
    rw[Lp,Lp];exact e2.app ((gm t).app (bZ i rfl bj))
   split
   .exact bZ i rfl bj
   .exact ce
  unfold aV
  exact(gm t).app (bZ (fw (by decide)) rfl (c5 rfl (rI aE.chain rfl (c5 rfl (bZ k rfl (c5 rfl (e1.app ((gm t).app tail))))))))
 | .gp e th rest,d+1,t,V,T,hV,h=>by
  have j:=cW hG th d (t+1) _ _ hV h.2.1;have ao:=cW hG rest (d+1) t _ _ hV h.2.2;have aE:=dY hV 2 e h.1;have k:(Atom.sg [123]).fG:=cb (.inl (by decide));have i:(Atom.sg [125]).fG:=cb (.inl (by decide));have e1:hA (aV (t+1) th):=⟨j,dI th _⟩
  unfold aV
  exact(gm t).app (bZ (fw (by decide)) rfl (c5 rfl (rI aE.chain rfl (c5 rfl (bZ k rfl (c5 rfl (e1.app ((gm t).app (bZ i rfl (c5 rfl ao))))))))))
 | .ret rest,d,t,V,T,hV,h=>by
  have q:eM G d V T rest:=by cases d<;>exact h
  have ao:=cW hG rest d t _ _ hV q;have a:(Atom.sg [59]).fG:=cb (.inl (by decide));unfold aV;exact(gm t).app (ir (fw (by decide)) rfl (bZ a rfl (c5 rfl ao)))
theorem jz:∀(k n:Nat),n<10 ^ (k+1)->(jy n).length<=k+1
 | k,n,h=>by
  rw[jy];split
  .simp
  .cases k with
   | zero=>simp at h;omega
   | succ k=>
    have:=jz k (n / 10) (by rw[Nat.div_lt_iff_lt_mul ab,<-Nat.pow_succ];exact h);simp;omega
 termination_by k=>k
theorem er(h:bq s=true):s.length<=16:=by
 simp only[bq,Ln,LI] at h;exact h.1.2
def fH(aI:List Atom):Nat:=(aU aI).length
theorem bs(aI f:List Atom):fH (aI++f)=fH aI+fH f:=by unfold fH;rw[a2,Ld]
theorem bg(a:Atom)(f:List Atom):fH (a::f)=a.bytes.length+fH f:=by unfold fH;rw[aY,Ld]
theorem cz:fH []=0:=rfl
theorem cL(c:UInt8)(aI:List Atom):Atom.count (.ws c::aI)=Atom.count aI:=rfl
theorem c8(c:List UInt8)(aI:List Atom):Atom.count (.word c::aI)=Atom.count aI+1:=rfl
theorem nz(c:List UInt8)(aI:List Atom):Atom.count (.num c::aI)=Atom.count aI+1:=rfl
theorem ck(c:List UInt8)(aI:List Atom):Atom.count (.sg c::aI)=Atom.count aI+1:=rfl
theorem dP(c:List UInt8)(aI:List Atom):Atom.count (kw c::aI)=Atom.count aI+1:=rfl
theorem count_nil:Atom.count []=0:=rfl
theorem eE(c:UInt8):(Atom.ws c).bytes.length=1:=rfl
theorem ep(c:List UInt8):(Atom.word c).bytes.length=c.length:=rfl
theorem gC(c:List UInt8):(kw c).bytes.length=c.length:=rfl
theorem s5(c:List UInt8):(Atom.num c).bytes.length=c.length:=rfl
theorem dU(c:List UInt8):(Atom.sg c).bytes.length=c.length:=rfl
def cE:Nat->Nat
 | 0=>1
 | d+1=>2*(cE d+2)+1
def bE:Nat->Nat
 | 0=>19
 | d+1=>2*(bE d+2)+4
theorem C6:∀d,1<=cE d
 | 0=>Lb _
 | d+1=>by unfold cE;omega
theorem vX:∀d,19<=bE d
 | 0=>Lb _
 | d+1=>by have:=vX d;unfold bE;omega
theorem nL(b:Bool)(aI:List Atom):Atom.count (par b aI)<=Atom.count aI+2/\fH (par b aI)<=fH aI+2:=by
 cases b
 .exact⟨by simp[par],by simp[par]⟩
 .simp only[par,if_true,ck,count_append,bg,bs,cz,dU,count_nil,Lo,Lu];omega
theorem Eb(op:Int):(gM op).length<=2:=by
 unfold gM
 repeat' split
 all_goals decide
theorem df{N:LQ}(hN:dE N):∀(d:Nat) (x:VE),x.src N d->Atom.count (cd x)<=cE d/\fH (cd x)<=bE d
 | d,.num n,h=>by
  have q:0<=n/\n<4611686018427387904:=by cases d<;>exact h
  have:=jz 18 n.toNat ab;have ae:=C6 d;have aD:=vX d;simp only[cd,nz,count_nil,bg,cz,s5]
  omega
 | d,.gT s,h=>by
  have q:s∈N:=by cases d<;>exact h
  have:=er (hN s q);have ae:=C6 d;have aD:=vX d;simp only[cd,c8,count_nil,bg,cz,ep]
  omega
 | d,.loc _,h=>by cases d<;>exact h.elim
 | d,.iz _,h=>by cases d<;>exact h.elim
 | 0,.un _ _,h=>h.elim
 | 0,.bin _ _ _,h=>h.elim
 | d+1,.un op x,h=>by
  have ao:=df hN d x h.2;have hp:=nL (dx op (aZ x) false) (cd x);have hs:(if op=3 then [45] else [33]:List UInt8).length=1:=by split<;>rfl
  simp only[cd,ck,bg,dU,hs,cE,bE]
  omega
 | d+1,.bin op x y,h=>by
  have i:=df hN d x h.2.1;have c:=df hN d y h.2.2;have hp:=nL (dx op (aZ x) false) (cd x);have br:=nL (dx op (aZ y) true) (cd y);have hs:=Eb op;simp only[cd,count_append,cL,ck,bs,bg,eE,dU,cE,bE];omega
section
variable {G:Env} {V:LQ} (hV:dE V) (hG:nZ G)
include hV hG
theorem mI(r:eN)(h:rf G V r):Atom.count (iq r)<=22/\fH (iq r)<=118:=by
 have hn:bq r.name.data.toList=true:=by
  rcases h with⟨m,hm,he,_⟩|⟨hp,_⟩
  .rw[<-he];exact hG.ae m hm
  .exact hG.params _ hp
 have hl:=er hn;unfold iq
 cases ak:r.idx with
 | none=>
  exact z5
 | some e=>
  have hs:e.src V 2:=by
   exact Gv
  have ao:=df hV 2 e hs;simp only[cE,bE] at ao;simp only[c8,ck,count_append,count_nil,bg,bs,cz,ep,dU,Lo,Lu];omega
theorem mH(p:ByteArray×Bool)(a:dd)(h:Je G V p a):Atom.count (fy a)<=23/\fH (fy a)<=124:=by
 cases a with
 | ex e=>
  have ao:=df hV 2 e h.2;simp only[cE,bE] at ao;show Atom.count (cd e)<=23/\fH (cd e)<=124
  omega
 | mx r=>
  have ao:=mI hV hG r h.2;simp only[fy,dP,cL,bg,gC,eE];have:fK.length=5:=rfl;omega
theorem om:∀(ps:List (ByteArray×Bool)) (aI:List dd),h2 G V ps aI->Atom.count (dT (aI.map fy))<=24*ps.length/\fH (dT (aI.map fy))<=126*ps.length
 | [],[],_=>⟨Lb _,Lb _⟩
 | [p],[a],h=>by
  have:=mH hV hG p a h.1;simp only[Lh,Ly,dT,Lo,Lu]
  omega
 | p::q::ps,a::b::aI,h=>by
  have ae:=mH hV hG p a h.1;have ao:=om (q::ps) (b::aI) h.2;simp only[Lh] at ao;simp only[Lh,dT,count_append,ck,cL,bs,bg,dU,eE,Lo,Lu] at ao ⊢
  omega
 | [],_::_,h=>h.elim
 | _::_,[],h=>h.elim
 | [_],_::_::_,h=>h.2.elim
 | _::_::_,[_],h=>h.2.elim
theorem rl(ps:List (ByteArray×Bool))(aI:List dd)(h:h2 G V ps aI)(hp:ps.length<=2):Atom.count (iS aI)<=50/\fH (iS aI)<=254:=by
 have:=om hV hG ps aI h;simp only[iS,ck,count_append,count_nil,bg,bs,cz,dU,Lo,Lu];omega
end
theorem gO(t:Nat):Atom.count (ft t)=0/\fH (ft t)=t:=by
 induction t with
 | zero=>exact⟨rfl,rfl⟩
 | succ t ao=>
  have e:ft (t+1)=.ws 9::ft t:=rfl;rw[e,cL,bg,eE];omega
theorem cX{G:Env}(hG:nZ G):∀(b:ak) (d t:Nat) (V T:LQ),dE V->t+d<=8->eM G d V T b->Atom.count (aV t b)<=53*b.num/\fH (aV t b)<=400*b.num
 | .nil,d,t,V,T,_,_,_=>⟨Lb _,Lb _⟩
 | .set v n e rest,d,t,V,T,hV,ht,h=>by
  have b7:=gO t
  cases v with
  | true=>
   have q:bq n.data.toList=true/\n∉T/\e.src V 2/\eM G d (V++[n]) (T++[n]) rest:=by cases d<;>exact h
   have ao:=cX hG rest d t _ _ (j5 hV q.1) ht q.2.2.2;have aE:=df hV 2 e q.2.2.1;have hn:=er q.1;simp only[cE,bE] at aE;simp only[aV,if_true,count_append,dP,cL,c8,ck,count_nil,bs,bg,cz,gC,eE,ep,dU,ak.num,Lo,Lu]
   omega
  | false=>
   have q:n∈V/\e.src V 2/\eM G d V T rest:=by cases d<;>exact h
   have ao:=cX hG rest d t _ _ hV ht q.2.2;have aE:=df hV 2 e q.2.1;have hn:=er (hV n q.1);simp only[cE,bE] at aE;simp only[aV,LJ,if_false,count_append,cL,c8,ck,count_nil,bs,bg,cz,eE,ep,dU,ak.num,Lo,Lu]
   omega
 | .call g n aI rest,d,t,V,T,hV,ht,h=>by
  have b7:=gO t;have q:(∃ps,(n,ps)∈G.funcs/\h2 G V ps aI)/\eM G d V T rest:=by cases d<;>exact h
  obtain⟨⟨ps,J,has⟩,aQ⟩:=q;have ao:=cX hG rest d t _ _ hV ht aQ;have bp:=rl hV hG ps aI has (hG.funcs _ J).2;have hn:=er (hG.funcs _ J).1;cases g<;>
  .simp only[aV,LJ,if_false,if_true,count_append,dP,cL,c8,ck,count_nil,bs,bg,cz,gC,eE,ep,dU,ak.num,Lo,Lu];simp only[] at hn
   omega
 | .lock u r rest,d,t,V,T,hV,ht,h=>by
  have b7:=gO t;have q:rf G V r/\eM G d V T rest:=by cases d<;>exact h
  have ao:=cX hG rest d t _ _ hV ht q.2;have cg:=mI hV hG r q.1;cases u<;>
  .simp only[aV,LJ,if_false,if_true,count_append,dP,cL,ck,bs,bg,gC,eE,dU,ak.num,Lo,Lu]
   omega
 | .ite e th el rest,0,t,V,T,hV,ht,h=>h.elim
 | .gp e th rest,0,t,V,T,hV,ht,h=>h.elim
 | .ite e th el rest,d+1,t,V,T,hV,ht,h=>by
  have b7:=gO t;have j:=cX hG th d (t+1) _ _ hV ab h.2.1;have o:=cX hG el d (t+1) _ _ hV ab h.2.2.1;have ao:=cX hG rest (d+1) t _ _ hV ht h.2.2.2;have aE:=df hV 2 e h.1;simp only[cE,bE] at aE;cases hn:el.isNil<;>
  .simp only[aV,hn,LJ,if_false,if_true,Lq,LD,count_append,dP,cL,ck,count_nil,bs,bg,cz,gC,eE,dU,ak.num,Lo,Lu]
   omega
 | .gp e th rest,d+1,t,V,T,hV,ht,h=>by
  have b7:=gO t;have j:=cX hG th d (t+1) _ _ hV ab h.2.1;have ao:=cX hG rest (d+1) t _ _ hV ht h.2.2;have aE:=df hV 2 e h.1;simp only[cE,bE] at aE;simp only[aV,count_append,dP,cL,ck,bs,bg,gC,eE,dU,ak.num,Lo,Lu]
  omega
 | .ret rest,d,t,V,T,hV,ht,h=>by
  have b7:=gO t;have q:eM G d V T rest:=by cases d<;>exact h
  have ao:=cX hG rest d t _ _ hV ht q;simp only[aV,count_append,dP,cL,ck,bs,bg,gC,eE,dU,ak.num,Lo,Lu];omega
def hv(n:Int):List Atom:=if n<0 then [.sg [45],.num (jy n.natAbs)] else [.num (jy n.toNat)]
def hq(g:ByteArray×Int):List Atom:=kw [118,97,114]::.ws 32::.word g.1.data.toList::((if g.2=0 then [] else .ws 32::.sg [61]::.ws 32::hv g.2)++[.sg [59],.ws 10])
def hr(m:bF):List Atom:=kw (if m.re then [114,109,117,116,101,120] else fK)::.ws 32::.word m.name.data.toList::((if 0<m.size then .sg [91]::(hv m.size++[.sg [93]]) else [])++[.sg [59],.ws 10])
def gB(p:ByteArray×Bool):List Atom:=if p.2 then [kw fK,.ws 32,.word p.1.data.toList] else [.word p.1.data.toList]
def ho(f:aA):List Atom:=kw [102,117,110,99]::.ws 32::.word f.name.data.toList::.sg [40]::(dT (f.params.map gB)++(.sg [41]::.ws 32::.sg [123]::.ws 10::(aV 1 f.body++[.sg [125],.ws 10])))
def fA(p:bD):List Atom:=p.globals.flatMap hq++(p.ae.flatMap hr++p.funcs.flatMap ho)
def fF(p:bD):List ByteArray:=p.globals.map (·.1)
def ba(p:bD):List ByteArray:=fF p++p.ae.map (·.name)++p.funcs.map (·.name)
def sigs(p:bD):List (ByteArray×List (ByteArray×Bool)):=p.funcs.map λf=>(f.name,f.params)
def fo(p:bD)(f:aA):Env:=⟨p.ae,f.params,sigs p⟩
def cy(ps:List (ByteArray×Bool)):List ByteArray:=(ps.filter λq=>!q.2).map (·.1)
structure KK(p:bD)(f:aA):Prop where
 params:∀q∈f.params,bq q.1.data.toList=true
 iT:f.params.length<=2
 fresh:(ba p++f.params.map (·.1)).Nodup
 body:eM (fo p f) 4 (fF p++cy f.params) (ba p++f.params.map (·.1)) f.body
structure oK(p:bD):Prop where
 names:∀s∈ba p,bq s.data.toList=true
 nodup:(ba p).Nodup
 qv:p.globals.length<=16
 yY:p.ae.length<=12
 Fl:p.funcs.length<=16
 inits:∀g∈p.globals,-9223372036854775807<=g.2/\g.2<=9223372036854775807
 gy:∀m∈p.ae,0<=m.size/\m.size<=64/\(m.re=true->m.size=0)
 funcs:∀f∈p.funcs,KK p f
 main:∃(i:Nat) (f:aA),p.funcs[i]?=some f/\f.name=⟨#[109,97,105,110]⟩/\f.params=[]
 iT:(p.funcs.map λf=>f.body.num).sum<=64
theorem oK.env(h:oK p){f:aA}(J:f∈p.funcs):nZ (fo p f) where
 ae:=λm hm=>h.names _ (by simp only[ba,Lk,Lz];exact .inl (.inr ⟨m,hm,rfl⟩))
 params:=(h.funcs f J).params
 funcs:=λg aK=>by
  obtain⟨k,ai,rfl⟩:=Lz.1 aK;exact⟨h.names _ (by simp only[ba,Lk,Lz];exact .inr ⟨k,ai,rfl⟩),(h.funcs k ai).iT⟩
theorem oK.vars(h:oK p){f:aA}(J:f∈p.funcs):dE (fF p++cy f.params):=by
 intro s hs;rcases Lk.1 hs with hs|hs
 .exact h.names _ (by simp only[ba,Lk];exact .inl (.inl hs))
 .obtain⟨q,br,rfl⟩:=Lz.1 hs;exact(h.funcs f J).params q (List.mem_filter.1 br).1
theorem j0{α:Type}(f:α->List Atom):∀(l:List α),(∀x∈l,hA (f x))->hA (l.flatMap f)
 | [],_=>⟨trivial,λa h=>by simp at h⟩
 | x::l,h=>by
  have ao:=j0 f l λy a4=>h y (by simp[a4]);have hx:=h x (by simp);refine⟨hx.app ao.1,λa aW=>?_⟩;rw[Lv,List.getLast?_append] at aW
  cases hl:(l.flatMap f).getLast? with
  | none=>rw[hl] at aW;exact hx.2 a (by simpa using aW)
  | some b=>
   rw[hl] at aW;simp at aW;subst aW;exact ao.2 b hl
theorem j1{α:Type}(f:α->List Atom)(g:α->Nat)(c k:Nat):∀(l:List α),(∀x∈l,Atom.count (f x)<=c+53*g x/\fH (f x)<=k+400*g x)->
  Atom.count (l.flatMap f)<=c*l.length+53*(l.map g).sum/\fH (l.flatMap f)<=k*l.length+400*(l.map g).sum
 | [],_=>⟨by simp[count_nil],by simp[cz]⟩
 | x::l,h=>by
  have ao:=j1 f g c k l λy a4=>h y (by simp[a4]);have hx:=h x (by simp);simp only[Lv,count_append,bs,Lo,Lh,List.sum_cons,Nat.mul_add,Nat.mul_one];omega
theorem HV{α:Type}(l:List α):(l.map λ_=>0).sum=0:=by induction l<;>simp_all
theorem pM(n:Int)(h:-9223372036854775807<=n/\n<=9223372036854775807):lH (hv n)/\Atom.count (hv n)<=2/\fH (hv n)<=20:=by
 unfold hv;split
 .have aK:=qx (n:=n.natAbs) ab;have hl:=jz 18 n.natAbs ab;refine⟨Et (.inl rfl) ⟨aK,⟨_,rfl,.inl ⟨rfl,aK⟩⟩,⟨_,rfl,.inl rfl⟩⟩,?_,?_⟩
  .simp only[ck,nz,count_nil];omega
  .simp only[bg,cz,dU,s5,Lo,Lu];omega
 .have aK:=qx (n:=n.toNat) ab;have hl:=jz 18 n.toNat ab;refine⟨⟨aK,⟨_,rfl,.inl ⟨rfl,aK⟩⟩,⟨_,rfl,.inl rfl⟩⟩,?_,?_⟩
  .simp only[nz,count_nil];omega
  .simp only[bg,cz,s5];omega
theorem FM:Atom.chain [.sg [59],.ws 10]:=bZ (cb (.inl (by decide))) rfl rfl
theorem rE(g:ByteArray×Int)(hn:bq g.1.data.toList=true)(h:-9223372036854775807<=g.2/\g.2<=9223372036854775807):hA (hq g)/\Atom.count (hq g)<=6/\fH (hq g)<=50:=by
 have hl:=er hn;obtain⟨ba,hc,O⟩:=pM g.2 h;have ai:(kw [118,97,114]).fG:=fw (by decide);refine⟨⟨?_,λa aW=>?_⟩,?_⟩
 .unfold hq;refine bZ ai rfl (c5 rfl ?_);split
  .exact ir (dz hn) rfl FM
  .exact bZ (dz hn) rfl (c5 rfl (bZ (cb (.inl (by decide))) rfl (c5 rfl (eY ba (.inr (.inr (.inl rfl))) FM))))
 .unfold hq at aW;exact zP
 .unfold hq;have aU:([118,97,114]:List UInt8).length=3:=rfl;split
  .simp only[LD,dP,cL,c8,ck,count_nil,bg,cz,gC,eE,ep,dU,Lo,Lu];omega
  .simp only[Lq,dP,cL,c8,ck,count_append,count_nil,bg,bs,cz,gC,eE,ep,dU,Lo,Lu];omega
theorem rF(m:bF)(hn:bq m.name.data.toList=true)(h:0<=m.size/\m.size<=64):hA (hr m)/\Atom.count (hr m)<=7/\fH (hr m)<=50:=by
 have hl:=er hn;obtain⟨ba,hc,O⟩:=pM m.size ab;have ai:(kw (if m.re then [114,109,117,116,101,120] else fK)).fG:=fw (by split<;>decide);have a8:(if m.re then [114,109,117,116,101,120] else fK:List UInt8).length<=6:=by split<;>decide
 refine⟨⟨?_,λa aW=>?_⟩,?_⟩
 .unfold hr;refine bZ ai rfl (c5 rfl ?_);split
  .simp only[Lq,Lp];refine ir (dz hn) rfl (oT (.inr rfl) ba (eY ba (.inr (.inl rfl)) (cN (cb (.inl (by decide))) FM λb O=>?_)));simp at O;subst O;exact oV _ (.inr (.inr rfl)) _ (.inr (.inr (.inl rfl)))
  .exact ir (dz hn) rfl FM
 .unfold hr at aW;exact zP
 .unfold hr;generalize (if m.re then [114,109,117,116,101,120] else fK:List UInt8)=s at *;split
  .simp only[Lq,dP,cL,c8,ck,count_append,count_nil,bg,bs,cz,gC,eE,ep,dU,Lo,Lu];omega
  .simp only[LD,dP,cL,c8,ck,count_nil,bg,cz,gC,eE,ep,dU,Lo,Lu];omega
theorem nw(p:ByteArray×Bool)(hn:bq p.1.data.toList=true):lH (gB p)/\Atom.count (gB p)<=2/\fH (gB p)<=22:=by
 have hl:=er hn;have hw:=dz hn;have ai:(kw fK).fG:=fw (by decide);have cd:fK.length=5:=rfl;unfold gB;split
 .refine⟨⟨bZ ai rfl (c5 rfl hw),⟨_,rfl,.inl ⟨rfl,ai⟩⟩,⟨_,rfl,.inl rfl⟩⟩,?_⟩;simp only[dP,cL,c8,count_nil,bg,cz,gC,eE,ep];omega
 .refine⟨⟨hw,⟨_,rfl,.inl ⟨rfl,hw⟩⟩,⟨_,rfl,.inl rfl⟩⟩,?_⟩;exact z5
theorem oo:∀(l:List (ByteArray×Bool)),(∀q∈l,bq q.1.data.toList=true)->Atom.count (dT (l.map gB))<=3*l.length/\fH (dT (l.map gB))<=24*l.length
 | [],_=>⟨Lb _,Lb _⟩
 | [p],h=>by
  have:=(nw p (h p (by simp))).2;simp only[Lh,Ly,dT,Lo,Lu]
  omega
 | p::q::l,h=>by
  have ae:=(nw p (h p (by simp))).2;have ao:=oo (q::l) λx hx=>h x (by simp[hx]);simp only[Lh] at ao;simp only[Lh,dT,count_append,ck,cL,bs,bg,dU,eE,Lo,Lu] at ao ⊢;omega
theorem rD(hp:oK p){f:aA}(J:f∈p.funcs):hA (ho f)/\Atom.count (ho f)<=13+53*f.body.num/\fH (ho f)<=80+400*f.body.num:=by
 have hF:=hp.funcs f J;have hn:bq f.name.data.toList=true:=hp.names _ (by simp only[ba,Lk,Lz];exact .inr ⟨f,J,rfl⟩);have hl:=er hn;have hc:=cW (hp.env J) f.body 4 1 _ _ (hp.vars J) hF.body;have ai:=cX (hp.env J) f.body 4 1 _ _ (hp.vars J) ab hF.body;have br:=oo f.params hF.params;have M:=hF.iT;have k:(Atom.sg [123]).fG:=cb (.inl (by decide));have i:Atom.chain [.sg [125],.ws 10]:=bZ (cb (.inl (by decide))) rfl rfl;have e1:hA (aV 1 f.body):=⟨hc,dI f.body 1⟩
 have tail:Atom.chain (.sg [41]::.ws 32::.sg [123]::.ws 10::(aV 1 f.body++[.sg [125],.ws 10])):=
  bZ (cb (.inl (by decide))) rfl (c5 rfl (bZ k rfl (c5 rfl (e1.app i))))
 refine⟨⟨?_,λa aW=>?_⟩,?_⟩
 .unfold ho;refine bZ (fw (by decide)) rfl (c5 rfl (ir (dz hn) rfl ?_))
  cases cq:f.params with
  | nil=>
   refine cN (cb (.inl (by decide))) tail λb O=>?_
   exact GB
  | cons q l=>
   have hs:lH (dT ((q::l).map gB)):=nE _ (λa aW=>by
    obtain⟨x,hx,rfl⟩:=Lz.1 aW;exact(nw x (hF.params x (by rw[cq];exact hx))).1) (by simp)
   exact oT (.inl rfl) hs (eY hs (.inl rfl) tail)
 .unfold ho at aW;exact(lJ.cons (.cons (.cons (.cons (.app (.cons (.cons (.cons (.cons (.app (.cons (.nl (l:=[]) λa h=>by simp at h)))))))))))).2 a aW
 .have a1:([102,117,110,99]:List UInt8).length=4:=rfl;simp only[ho,dP,cL,c8,ck,count_append,count_nil,bg,bs,cz,gC,eE,ep,dU,Lo,Lu];omega
theorem uC(hp:oK p):(dH (aU (fA p))).2.2=0:=by
 have aK:∀g∈p.globals,bq g.1.data.toList=true:=λg h=>hp.names _ (by simp only[ba,fF,Lk,Lz];exact .inl (.inl ⟨g,h,rfl⟩));have hm:∀m∈p.ae,bq m.name.data.toList=true:=λm h=>hp.names _ (by simp only[ba,Lk,Lz];exact .inl (.inr ⟨m,h,rfl⟩));have c1:=j0 hq p.globals λg h=>(rE g (aK g h) (hp.inits g h)).1;have c2:=j0 hr p.ae λm h=>(rF m (hm m h) ⟨(hp.gy m h).1,(hp.gy m h).2.1⟩).1;have c3:=j0 ho p.funcs λf h=>(rD hp h).1;have cd:=j1 hq (λ_=>0) 6 50 p.globals λg h=>by have:=(rE g (aK g h) (hp.inits g h)).2;omega
 have bJ:=j1 hr (λ_=>0) 7 50 p.ae λm h=>by have:=(rF m (hm m h) ⟨(hp.gy m h).1,(hp.gy m h).2.1⟩).2;omega
 have aZ:=j1 ho (λf=>f.body.num) 13 80 p.funcs λf h=>(rD hp h).2;rw[HV] at cd bJ;have n1:=hp.qv;have n2:=hp.yY;have n3:=hp.Fl;have n4:=hp.iT;have hlen:(aU (fA p)).length<=262144:=by
  have:fH (fA p)=fH (p.globals.flatMap hq)+(fH (p.ae.flatMap hr)+fH (p.funcs.flatMap ho)):=by unfold fA;rw[bs,bs]
  unfold fH at this cd bJ aZ;omega
 unfold dH;rw[if_neg ab];refine wo (fA p) _ _ [] ?_ (Nat.lt_succ_self _) ?_
 .exact c1.app (c2.app c3.1)
 .unfold fA;rw[count_append,count_append];simp only[Lu];omega
end Go.Proofs.YtflecliffjbleaaGreat
