/- Part 4 of the proof. No condition of its own. -/
import Derived.Test.YtnigabjngpnbiabGreatF02
import Derived.Test.YtnigabjngpnbiabGreatF03
namespace Go.Proofs.YtnigabjngpnbiabGreat
open Go.RowKit Go.Proofs.Tryz
set_option maxRecDepth 1000000
set_option maxHeartbeats 25600000
set_option linter.unusedVariables false
variable{a:Atom}{l m:List Atom}{s:List UInt8}{c:UInt8}{p:bN}
def a5:VE->Int
 | .num _=>1
 | .gU _=>2
 | .loc _=>18
 | .ij _=>19
 | .un op _=>op
 | .bin op _ _=>op
def c9(op:Int):Int:=if op=17 then 0 else if op=16 then 1 else if 10<=op/\op<=15 then 2 else if op=8\/op=9 then 3 else if 5<=op/\op<=7 then 4 else if op=3\/op=4 then 5 else 6
def dJ(op arg:Int)(second:Bool):Bool:=decide (c9 arg<c9 op) || (c9 arg == c9 op && second)
def hg(op:Int):List UInt8:=
 if op=5 then [42] else if op=6 then [47] else if op=7 then [37] else if op=8 then [43] else if op=9 then [45] else if op=10 then [60] else if op=11 then [60,61]
 else if op=12 then [62] else if op=13 then [62,61] else if op=14 then [61,61] else if op=15 then [33,61] else if op=16 then [38,38] else [124,124]
def par(b:Bool)(aY:List Atom):List Atom:=if b then .sg [40]::(aY++[.sg [41]]) else aY
def cw:VE->List Atom
 | .num n=>[.num (jL n.toNat)]
 | .gU s=>[.word s.data.toList]
 | .loc _=>[]
 | .ij _=>[]
 | .un op x=>.sg (if op=3 then [45] else [33])::par (dJ op (a5 x) false) (cw x)
 | .bin op x y=>par (dJ op (a5 x) false) (cw x)++(.ws 32::.sg (hg op)::.ws 32::par (dJ op (a5 y) true) (cw y))
def VE.src(N:NI):Nat->VE->Prop
 | _,.num n=>0<=n/\n<4611686018427387904
 | _,.gU s=>s∈N
 | _,.loc _=>False
 | _,.ij _=>False
 | 0,.un _ _=>False
 | 0,.bin _ _ _=>False
 | d+1,.un op x=>(op=3\/op=4)/\VE.src N d x
 | d+1,.bin op x y=>(5<=op/\op<=17)/\VE.src N d x/\VE.src N d y
def dQ(N:NI):Prop:=∀s∈N,bB s.data.toList=true
structure lT(aY:List Atom):Prop where
 chain:Atom.chain aY
 first:∃a,aY.head?=some a/\ue a
 last:∃a,aY.getLast?=some a/\IC a
theorem getLast_append{aY f:List Atom}(h:f.getLast?=some a):(aY++f).getLast?=some a:=by
 rw[List.getLast?_append,h];rfl
theorem head_append{aY f:List Atom}(h:aY.head?=some a):(aY++f).head?=some a:=by
 rw[List.head?_append,h];rfl
theorem c5{aY:List Atom}(bg:a.ga)(h:Atom.chain aY)(J:∀b,aY.head?=some b->a.fits b):Atom.chain (a::aY):=
 ez [a] aY bg h λx b hx O=>by
  simp at hx;subst hx;exact J b O
theorem ct(h:s∈eC\/s∈fo):(Atom.sg s).ga:=h.symm
theorem lT.par{aY:List Atom}(h:lT aY)(b:Bool):lT (par b aY):=by
 cases b
 .exact h
 .obtain⟨a,bg,hs⟩:=h.first;obtain⟨z,aI,he⟩:=h.last;refine⟨?_,⟨_,rfl,.inr (.inr (.inr rfl))⟩,⟨.sg [41],?_,.inr (.inl rfl)⟩⟩
  .refine c5 (ct (.inl (by decide))) (ez _ _ h.chain (ct (.inl (by decide))) λx y hx bb=>?_) λy bb=>?_
   .rw[aI] at hx;injection hx with hx;subst hx;simp at bb;subst bb;exact py _ he _ (.inl rfl)
   .rw[head_append bg] at bb;injection bb with bb;subst bb;exact oe _ (.inr (.inr (.inl rfl))) _ hs
  .show (Atom.sg [40]::(aY++[Atom.sg [41]])).getLast?=some (.sg [41])
   rw[<-List.cons_append];exact getLast_append rfl
theorem xP(op:Int):hg op∈eC\/hg op∈fo:=by
 unfold hg
 repeat' split
 all_goals first|exact .inl (by decide)|exact .inr (by decide)
theorem dM(h:bB s=true):(Atom.word s).ga:=by
 cases s with
 | nil=>simp[bB] at h
 | cons c l=>
  simp only[bB,Ng,Ny] at h;exact⟨⟨c,l,rfl,h.1.1.1,h.1.1.2⟩,.inr h.1.2⟩
theorem qO{n:Nat}(h:n<=9223372036854775807):(Atom.num (jL n)).ga:=by
 obtain⟨ac,az⟩:=uM n;exact⟨az,ac,by rw[zY n h];omega⟩
theorem Gf{aY:List Atom}(hs:s=[45]\/s=[33])(h:lT aY):lT (.sg s::aY):=by
 obtain⟨a,bg,cf⟩:=h.first;obtain⟨z,aI,he⟩:=h.last;refine⟨c5 (ct (.inl (by rcases hs with rfl|rfl<;>decide))) h.chain λb O=>?_,⟨_,rfl,by rcases hs with rfl|rfl<;>simp[ue]⟩,⟨z,?_,he⟩⟩
 .rw[bg] at O;injection O with O;subst O;exact oe _ (by rcases hs with rfl|rfl<;>simp) _ cf
 .show ([Atom.sg s]++aY).getLast?=some z
  exact getLast_append aI
theorem ey{N:NI}(hN:dQ N):∀(d:Nat) (x:VE),x.src N d->lT (cw x)
 | d,.num n,h=>by
  have q:0<=n/\n<4611686018427387904:=by cases d<;>exact h
  have aR:=qO (n:=n.toNat) ad
  exact⟨aR,⟨_,rfl,.inl ⟨rfl,aR⟩⟩,⟨_,rfl,.inl rfl⟩⟩
 | d,.gU s,h=>by
  have q:s∈N:=by cases d<;>exact h
  have aR:=dM (hN s q)
  exact⟨aR,⟨_,rfl,.inl ⟨rfl,aR⟩⟩,⟨_,rfl,.inl rfl⟩⟩
 | d,.loc _,h=>by cases d<;>exact h.elim
 | d,.ij _,h=>by cases d<;>exact h.elim
 | 0,.un _ _,h=>h.elim
 | 0,.bin _ _ _,h=>h.elim
 | d+1,.un op x,h=>by
  unfold cw
  exact Gf (by split<;>simp) ((ey hN d x h.2).par (dJ op (a5 x) false))
 | d+1,.bin op x y,h=>by
  have i:=(ey hN d x h.2.1).par (dJ op (a5 x) false);have c:=(ey hN d y h.2.2).par (dJ op (a5 y) true);unfold cw;generalize par (dJ op (a5 x) false) (cw x)=aY at *;generalize par (dJ op (a5 y) true) (cw y)=f at *;obtain⟨a,bg,cf⟩:=i.first;obtain⟨z,aI,he⟩:=c.last;refine⟨ez _ _ i.chain ?_ ?_,⟨a,head_append bg,cf⟩,⟨z,getLast_append ?_,he⟩⟩
  .refine c5 rfl (c5 (ct (xP op)) (c5 rfl c.chain λb _=>pO _ b) λb O=>?_) λb _=>pO _ b;simp at O;subst O;exact pA _ _ rfl
  .intro x y _ bb;simp at bb;subst bb;exact pA _ _ rfl
  .show ([Atom.ws 32,Atom.sg (hg op),Atom.ws 32]++f).getLast?=some z
   exact getLast_append aI
structure Env where
 af:List bM
 params:List (ByteArray×Bool)
 funcs:List (ByteArray×List (ByteArray×Bool))
def rI(G:Env)(V:NI)(r:eY):Prop:=
 (∃m∈G.af,m.name=r.name/\(0<m.size->∃e,r.idx=some e/\e.src V 2)/\(¬0<m.size->r.idx=none))\/((r.name,true)∈G.params/\r.idx=none)
def K8(G:Env)(V:NI)(p:ByteArray×Bool):dq->Prop
 | .mx r=>p.2=true/\rI G V r
 | .ex e=>p.2=false/\e.src V 2
def ix(G:Env)(V:NI):List (ByteArray×Bool)->List dq->Prop
 | [],[]=>True
 | p::ps,a::aY=>K8 G V p a/\ix G V ps aY
 | _,_=>False
def eX(G:Env):(d:Nat)->(V T:NI)->al->Prop
 | _,_,_,.nil=>True
 | d,V,T,.set true n e rest=>bB n.data.toList=true/\n∉T/\e.src V 2/\eX G d (V++[n]) (T++[n]) rest
 | d,V,T,.set false n e rest=>n∈V/\e.src V 2/\eX G d V T rest
 | d,V,T,.call _ n aY rest=>(∃ps,(n,ps)∈G.funcs/\ix G V ps aY)/\eX G d V T rest
 | d,V,T,.lock _ r rest=>rI G V r/\eX G d V T rest
 | 0,_,_,.ite ..=>False
 | 0,_,_,.gM ..=>False
 | d+1,V,T,.ite e th el rest=>e.src V 2/\eX G d V T th/\eX G d V T el/\eX G (d+1) V T rest
 | d+1,V,T,.gM e th rest=>e.src V 2/\eX G d V T th/\eX G (d+1) V T rest
 | d,V,T,.ret rest=>eX G d V T rest
def al.isNil:al->Bool
 | .nil=>true
 | _=>false
def al.num:al->Nat
 | .nil=>0
 | .set _ _ _ rest=>rest.num+1
 | .call _ _ _ rest=>rest.num+1
 | .lock _ _ rest=>rest.num+1
 | .ite _ th el rest=>th.num+el.num+rest.num+1
 | .gM _ th rest=>th.num+rest.num+1
 | .ret rest=>rest.num+1
def kw(s:List UInt8):Atom:=.word s
def iM(r:eY):List Atom:=.word r.name.data.toList::(match r.idx with|none=>[]|some e=>.sg [91]::(cw e++[.sg [93]]))
def gh:List UInt8:=[109,117,116,101,120]
def fR:dq->List Atom
 | .mx r=>kw gh::.ws 32::iM r
 | .ex e=>cw e
def ei:List (List Atom)->List Atom
 | []=>[]
 | [a]=>a
 | a::b::l=>a++(.sg [44]::.ws 32::ei (b::l))
def jm(aY:List dq):List Atom:=.sg [40]::(ei (aY.map fR)++[.sg [41]])
def fK(n:Nat):List Atom:=List.replicate n (.ws 9)
def aW:Nat->al->List Atom
 | _,.nil=>[]
 | t,.set v n e rest=>fK t++((if v then [kw [118,97,114],.ws 32] else [])++(.word n.data.toList::.ws 32::.sg [61]::.ws 32::(cw e++(.sg [59]::.ws 10::aW t rest))))
 | t,.call g n aY rest=>fK t++((if g then [kw [103,111],.ws 32] else [])++(.word n.data.toList::(jm aY++(.sg [59]::.ws 10::aW t rest))))
 | t,.lock u r rest=>fK t++(kw (if u then [117,110,108,111,99,107] else [108,111,99,107])::.ws 32::(iM r++(.sg [59]::.ws 10::aW t rest)))
 | t,.ite e th el rest=>fK t++(kw [105,102]::.ws 32::(cw e++(.ws 32::.sg [123]::.ws 10::(aW (t+1) th++(fK t++(.sg [125] ::
   ((if el.isNil then [] else .ws 32::kw [101,108,115,101]::.ws 32::.sg [123]::.ws 10::(aW (t+1) el++(fK t++[.sg [125]])))++(.ws 10::aW t rest))))))))
 | t,.gM e th rest=>fK t++(kw [119,104,105,108,101]::.ws 32::(cw e++(.ws 32::.sg [123]::.ws 10::(aW (t+1) th++(fK t++(.sg [125]::.ws 10::aW t rest))))))
 | t,.ret rest=>fK t++(kw [114,101,116,117,114,110]::.sg [59]::.ws 10::aW t rest)
theorem fN(h:s∈rv):(kw s).ga:=by
 have key:∀s∈rv,(match s with|[]=>false|c::l=>bX c && l.all ck)=true:=by decide
 have:=key s h
 cases s with
 | nil=>cases this
 | cons c l=>
  simp only[Ng] at this;exact⟨⟨c,l,rfl,this.1,this.2⟩,.inl (by simpa[cz] using h)⟩
section
variable {aY f:List Atom}
theorem de(hc:pj c=true)(h:Atom.chain aY):Atom.chain (.ws c::aY):=c5 hc h λb _=>pO c b
theorem cd(bg:a.ga)(hc:pj c=true)(h:Atom.chain (.ws c::aY)):Atom.chain (a::.ws c::aY):=
 c5 bg h λb O=>by
  simp at O;subst O;exact pA _ _ hc
theorem iN(bg:a.ga)(hl:a.jV=true)(h:Atom.chain (.sg s::aY)):Atom.chain (a::.sg s::aY):=
 c5 bg h λb O=>by
  simp at O;subst O;exact yz _ _ hl rfl
theorem ft(ac:lT aY)(hs:s=[41]\/s=[93]\/s=[59]\/s=[44])(h:Atom.chain (.sg s::f)):Atom.chain (aY++.sg s::f):=
 ez _ _ ac.chain h λa b bg O=>by
  obtain⟨z,aI,he⟩:=ac.last;rw[aI] at bg;injection bg with bg;subst bg;simp at O;subst O;exact py _ he _ hs
theorem r7(ac:Atom.chain aY)(hc:pj c=true)(h:Atom.chain (.ws c::f)):Atom.chain (aY++.ws c::f):=
 ez _ _ ac h λa b _ O=>by
  simp at O;subst O;exact pA _ _ hc
theorem pw(hs:s=[40]\/s=[91])(ac:lT aY)(h:Atom.chain (aY++f)):Atom.chain (.sg s::(aY++f)):=
 c5 (ct (.inl (by rcases hs with rfl|rfl<;>decide))) h λb O=>by
  obtain⟨a,bg,cf⟩:=ac.first;rw[head_append bg] at O;injection O with O;subst O;exact oe _ (by rcases hs with rfl|rfl<;>simp) _ cf
def h8(aY:List Atom):Prop:=Atom.chain aY/\∀a,aY.getLast?=some a->∃c,a=.ws c
theorem h8.app(h:h8 aY)(O:Atom.chain f):Atom.chain (aY++f):=
 ez _ _ h.1 O λa b bg _=>by
  obtain⟨c,rfl⟩:=h.2 a bg;exact pO _ _
theorem gL(n:Nat):h8 (fK n):=by
 induction n with
 | zero=>exact⟨trivial,λa h=>by simp[fK] at h⟩
 | succ n aq=>
  refine⟨de rfl aq.1,λa h=>?_⟩;simp only[fK,List.getLast?_replicate] at h;simp at h;exact⟨9,h.symm⟩
theorem vg(h:∀a,m.getLast?=some a->∃c,a=.ws c)(hm:m≠[])(bg:(l++m).getLast?=some a):∃c,a=.ws c:=by
 rw[List.getLast?_append] at bg
 cases hl:m.getLast? with
 | none=>exact absurd (List.getLast?_eq_none_iff.1 hl) hm
 | some b=>
  rw[hl] at bg;simp at bg;subst bg;exact h _ hl
end
theorem qa{G:Env}{V:NI}(hV:dQ V)(hM:∀m∈G.af,bB m.name.data.toList=true)(bh:∀p∈G.params,bB p.1.data.toList=true)(r:eY)(h:rI G V r):lT (iM r):=by
 have hn:(Atom.word r.name.data.toList).ga:=by
  rcases h with⟨m,hm,he,_⟩|⟨hp,_⟩
  .rw[<-he];exact dM (hM m hm)
  .exact dM (bh _ hp)
 unfold iM
 cases aN:r.idx with
 | none=>exact⟨hn,⟨_,rfl,.inl ⟨rfl,hn⟩⟩,⟨_,rfl,.inl rfl⟩⟩
 | some e=>
  have hs:e.src V 2:=by
   exact Il
  have aq:=ey hV 2 e hs;refine⟨iN hn rfl (pw (.inr rfl) aq (ft aq (.inr (.inl rfl)) (ct (.inl (by decide))))),⟨_,rfl,.inl ⟨rfl,hn⟩⟩,⟨.sg [93],?_,.inr (.inr rfl)⟩⟩;show ((Atom.word r.name.data.toList::.sg [91]::cw e)++[Atom.sg [93]]).getLast?=_
  exact getLast_append rfl
theorem nV:∀(l:List (List Atom)),(∀a∈l,lT a)->l≠[]->lT (ei l)
 | [],_,h=>absurd rfl h
 | [a],h,_=>h a (by simp)
 | a::b::l,h,_=>by
  have aq:=nV (b::l) (λx hx=>h x (by simp[hx])) (by simp);have bg:=h a (by simp);obtain⟨x,hx,hs⟩:=bg.first;obtain⟨z,aI,he⟩:=aq.last;refine⟨ft bg (.inr (.inr (.inr rfl))) (cd (ct (.inl (by decide))) rfl (de rfl aq.chain)),⟨x,head_append hx,hs⟩,⟨z,?_,he⟩⟩;show (a++([Atom.sg [44],Atom.ws 32]++ei (b::l))).getLast?=some z
  exact getLast_append (getLast_append aI)
section
variable {G:Env} {V:NI} (hV:dQ V) (hM:∀m∈G.af,bB m.name.data.toList=true) (bh:∀p∈G.params,bB p.1.data.toList=true)
include hV hM bh
theorem wW(p:ByteArray×Bool)(a:dq)(h:K8 G V p a):lT (fR a):=by
 cases a with
 | ex e=>exact ey hV 2 e h.2
 | mx r=>
  have aq:=qa hV hM bh r h.2;have aj:(kw gh).ga:=fN (by decide);obtain⟨z,aI,he⟩:=aq.last;refine⟨cd aj rfl (de rfl aq.chain),⟨_,rfl,.inl ⟨rfl,aj⟩⟩,⟨z,?_,he⟩⟩;show ([kw gh,Atom.ws 32]++iM r).getLast?=some z
  exact getLast_append aI
theorem wc:∀(ps:List (ByteArray×Bool)) (aY:List dq),ix G V ps aY->(∀a∈aY.map fR,lT a)/\aY.length=ps.length
 | [],[],_=>⟨λa h=>by simp at h,rfl⟩
 | p::ps,a::aY,h=>by
  obtain⟨ac,az⟩:=wc ps aY h.2;refine⟨λx hx=>?_,by simp[az]⟩;simp only[M7,Nk] at hx;rcases hx with rfl|hx
  .exact wW hV hM bh p a h.1
  .exact ac x hx
 | [],_::_,h=>h.elim
 | _::_,[],h=>h.elim
theorem rL(ps:List (ByteArray×Bool))(aY:List dq)(h:ix G V ps aY){f:List Atom}(O:Atom.chain (.sg [59]::f)):Atom.chain (jm aY++.sg [59]::f):=by
 have u:Atom.chain (.sg [41]::.sg [59]::f):=c5 (ct (.inl (by decide))) O λb O=>by
  simp at O;subst O;exact py _ (.inr (.inl rfl)) _ (.inr (.inr (.inl rfl)))
 obtain⟨ac,_⟩:=wc hV hM bh ps aY h
 cases aY with
 | nil=>
  refine c5 (ct (.inl (by decide))) u λb O=>?_
  exact Ir
 | cons a l=>
  have aq:=nV ((a::l).map fR) ac (by simp);show Atom.chain (Atom.sg [40]::((ei ((a::l).map fR)++[Atom.sg [41]])++Atom.sg [59]::f))
  rw[Ni];exact pw (.inl rfl) aq (ft aq (.inl rfl) u)
end
def lU(l:List Atom):Prop:=l≠[]/\∀a,l.getLast?=some a->∃c,a=.ws c
theorem lU.cons{x:Atom}(h:lU l):lU (x::l):=
 ⟨by simp,λa bg=>vg (l:=[x]) h.2 h.1 (by simpa using bg)⟩
theorem lU.app(h:lU m):lU (l++m):=
 ⟨by have:=h.1;simp[this],λa bg=>vg h.2 h.1 bg⟩
theorem lU.nl(h:∀a,l.getLast?=some a->∃c,a=.ws c):lU (.ws 10::l):=by
 refine⟨by simp,λa bg=>?_⟩
 cases l with
 | nil=>simp at bg;exact⟨10,bg.symm⟩
 | cons x l=>exact h a (by rw[List.getLast?_cons_cons] at bg;exact bg)
theorem dV:∀(b:al) (t:Nat) (a:Atom),(aW t b).getLast?=some a->∃c,a=.ws c
 | .nil,t,a,h=>by simp[aW] at h
 | .set v n e rest,t,a,h=>by
  unfold aW at h
  exact(lU.app (.app (.cons (.cons (.cons (.cons (.app (.cons (.nl (dV rest t)))))))))).2 a h
 | .call g n aY rest,t,a,h=>by
  unfold aW at h
  exact(lU.app (.app (.cons (.app (.cons (.nl (dV rest t))))))).2 a h
 | .lock u r rest,t,a,h=>by
  unfold aW at h
  exact(lU.app (.cons (.cons (.app (.cons (.nl (dV rest t))))))).2 a h
 | .ite e th el rest,t,a,h=>by
  unfold aW at h
  exact(lU.app (.cons (.cons (.app (.cons (.cons (.cons (.app (.app (.cons (.app (.nl (dV rest t))))))))))))).2 a h
 | .gM e th rest,t,a,h=>by
  unfold aW at h
  exact(lU.app (.cons (.cons (.app (.cons (.cons (.cons (.app (.app (.cons (.nl (dV rest t)))))))))))).2 a h
 | .ret rest,t,a,h=>by
  unfold aW at h;exact(lU.app (.cons (.cons (.nl (dV rest t))))).2 a h
structure ov(G:Env):Prop where
 af:∀m∈G.af,bB m.name.data.toList=true
 params:∀p∈G.params,bB p.1.data.toList=true
 funcs:∀f∈G.funcs,bB f.1.data.toList=true/\f.2.length<=2
theorem km{V:NI}{n:ByteArray}(h:dQ V)(hn:bB n.data.toList=true):dQ (V++[n]):=by
 intro s hs;simp only[Nc,Nv] at hs;rcases hs with hs|rfl
 .exact h s hs
 .exact hn
theorem da{G:Env}(hG:ov G):∀(b:al) (d t:Nat) (V T:NI),dQ V->eX G d V T b->Atom.chain (aW t b)
 | .nil,d,t,V,T,_,_=>trivial
 | .set v n e rest,d,t,V,T,hV,h=>by
  have a:(Atom.sg [59]).ga:=ct (.inl (by decide));have f:(Atom.sg [61]).ga:=ct (.inl (by decide));unfold aW
  cases v with
  | true=>
   have q:bB n.data.toList=true/\n∉T/\e.src V 2/\eX G d (V++[n]) (T++[n]) rest:=by cases d<;>exact h
   have aq:=da hG rest d t _ _ (km hV q.1) q.2.2.2;have aF:=ey hV 2 e q.2.2.1
   exact(gL t).app (cd (fN (by decide)) rfl (de rfl (cd (dM q.1) rfl (de rfl (cd f rfl (de rfl (ft aF (.inr (.inr (.inl rfl))) (cd a rfl (de rfl aq)))))))))
  | false=>
   have q:n∈V/\e.src V 2/\eX G d V T rest:=by cases d<;>exact h
   have aq:=da hG rest d t _ _ hV q.2.2;have aF:=ey hV 2 e q.2.1
   exact(gL t).app (cd (dM (hV n q.1)) rfl (de rfl (cd f rfl (de rfl (ft aF (.inr (.inr (.inl rfl))) (cd a rfl (de rfl aq)))))))
 | .call g n aY rest,d,t,V,T,hV,h=>by
  have q:(∃ps,(n,ps)∈G.funcs/\ix G V ps aY)/\eX G d V T rest:=by cases d<;>exact h
  obtain⟨⟨ps,J,has⟩,ba⟩:=q;have aq:=da hG rest d t _ _ hV ba;have a:(Atom.sg [59]).ga:=ct (.inl (by decide));have bF:=rL hV hG.af hG.params ps aY has (cd a rfl (de (c:=10) rfl aq));have be:Atom.chain (.word n.data.toList::(jm aY++(.sg [59]::.ws 10::aW t rest))):=iN (dM (hG.funcs _ J).1) rfl bF;unfold aW
  cases g with
  | true=>exact(gL t).app (cd (fN (by decide)) rfl (de rfl be))
  | false=>exact(gL t).app be
 | .lock u r rest,d,t,V,T,hV,h=>by
  have q:rI G V r/\eX G d V T rest:=by cases d<;>exact h
  have aq:=da hG rest d t _ _ hV q.2;have cx:=qa hV hG.af hG.params r q.1;have a:(Atom.sg [59]).ga:=ct (.inl (by decide));unfold aW
  exact(gL t).app (cd (fN (by cases u<;>decide)) rfl (de rfl (ft cx (.inr (.inr (.inl rfl))) (cd a rfl (de rfl aq)))))
 | .ite e th el rest,0,t,V,T,hV,h=>h.elim
 | .gM e th rest,0,t,V,T,hV,h=>h.elim
 | .ite e th el rest,d+1,t,V,T,hV,h=>by
  have j:=da hG th d (t+1) _ _ hV h.2.1;have o:=da hG el d (t+1) _ _ hV h.2.2.1;have aq:=da hG rest (d+1) t _ _ hV h.2.2.2;have aF:=ey hV 2 e h.1;have k:(Atom.sg [123]).ga:=ct (.inl (by decide));have i:(Atom.sg [125]).ga:=ct (.inl (by decide));have e1:h8 (aW (t+1) th):=⟨j,dV th _⟩
  have e2:h8 (aW (t+1) el):=⟨o,dV el _⟩
  have cD:Atom.chain (.ws 10::aW t rest):=de rfl aq;have tail:Atom.chain (.sg [125]::((if el.isNil then [] else .ws 32::kw [101,108,115,101]::.ws 32::.sg [123]::.ws 10::(aW (t+1) el++(fK t++[.sg [125]])))++(.ws 10::aW t rest))):=by
   have aR:Atom.chain (.sg [125]::((.ws 32::kw [101,108,115,101]::.ws 32::.sg [123]::.ws 10::(aW (t+1) el++(fK t++[.sg [125]])))++(.ws 10::aW t rest))):=by
    refine cd i rfl (de rfl (cd (fN (by decide)) rfl (de rfl (cd k rfl (de rfl ?_)))));show Atom.chain ((aW (t+1) el++(fK t++[Atom.sg [125]]))++(Atom.ws 10::aW t rest))
    rw[Ni,Ni];exact e2.app ((gL t).app (cd i rfl cD))
   split
   .exact cd i rfl cD
   .exact aR
  unfold aW
  exact(gL t).app (cd (fN (by decide)) rfl (de rfl (r7 aF.chain rfl (de rfl (cd k rfl (de rfl (e1.app ((gL t).app tail))))))))
 | .gM e th rest,d+1,t,V,T,hV,h=>by
  have j:=da hG th d (t+1) _ _ hV h.2.1;have aq:=da hG rest (d+1) t _ _ hV h.2.2;have aF:=ey hV 2 e h.1;have k:(Atom.sg [123]).ga:=ct (.inl (by decide));have i:(Atom.sg [125]).ga:=ct (.inl (by decide));have e1:h8 (aW (t+1) th):=⟨j,dV th _⟩
  unfold aW
  exact(gL t).app (cd (fN (by decide)) rfl (de rfl (r7 aF.chain rfl (de rfl (cd k rfl (de rfl (e1.app ((gL t).app (cd i rfl (de rfl aq))))))))))
 | .ret rest,d,t,V,T,hV,h=>by
  have q:eX G d V T rest:=by cases d<;>exact h
  have aq:=da hG rest d t _ _ hV q;have a:(Atom.sg [59]).ga:=ct (.inl (by decide));unfold aW;exact(gL t).app (iN (fN (by decide)) rfl (cd a rfl (de rfl aq)))
theorem jM:∀(k n:Nat),n<10 ^ (k+1)->(jL n).length<=k+1
 | k,n,h=>by
  rw[jL];split
  .simp
  .cases k with
   | zero=>simp at h;omega
   | succ k=>
    have:=jM k (n / 10) (by rw[Nat.div_lt_iff_lt_mul ad,<-Nat.pow_succ];exact h);simp;omega
 termination_by k=>k
theorem eH(h:bB s=true):s.length<=16:=by
 simp only[bB,Ng,Ny] at h;exact h.1.2
def gb(aY:List Atom):Nat:=(aV aY).length
theorem bD(aY f:List Atom):gb (aY++f)=gb aY+gb f:=by unfold gb;rw[bh,M3]
theorem bs(a:Atom)(f:List Atom):gb (a::f)=a.bytes.length+gb f:=by unfold gb;rw[a1,M3]
theorem cI:gb []=0:=rfl
theorem cV(c:UInt8)(aY:List Atom):Atom.count (.ws c::aY)=Atom.count aY:=rfl
theorem dj(c:List UInt8)(aY:List Atom):Atom.count (.word c::aY)=Atom.count aY+1:=rfl
theorem nP(c:List UInt8)(aY:List Atom):Atom.count (.num c::aY)=Atom.count aY+1:=rfl
theorem cy(c:List UInt8)(aY:List Atom):Atom.count (.sg c::aY)=Atom.count aY+1:=rfl
theorem ef(c:List UInt8)(aY:List Atom):Atom.count (kw c::aY)=Atom.count aY+1:=rfl
theorem count_nil:Atom.count []=0:=rfl
theorem eQ(c:UInt8):(Atom.ws c).bytes.length=1:=rfl
theorem eG(c:List UInt8):(Atom.word c).bytes.length=c.length:=rfl
theorem g4(c:List UInt8):(kw c).bytes.length=c.length:=rfl
theorem tH(c:List UInt8):(Atom.num c).bytes.length=c.length:=rfl
theorem ej(c:List UInt8):(Atom.sg c).bytes.length=c.length:=rfl
def cE:Nat->Nat
 | 0=>1
 | d+1=>2*(cE d+2)+1
def bE:Nat->Nat
 | 0=>19
 | d+1=>2*(bE d+2)+4
theorem EJ:∀d,1<=cE d
 | 0=>MU _
 | d+1=>by unfold cE;omega
theorem wY:∀d,19<=bE d
 | 0=>MU _
 | d+1=>by have:=wY d;unfold bE;omega
theorem n8(b:Bool)(aY:List Atom):Atom.count (par b aY)<=Atom.count aY+2/\gb (par b aY)<=gb aY+2:=by
 cases b
 .exact⟨by simp[par],by simp[par]⟩
 .simp only[par,if_true,cy,count_append,bs,bD,cI,ej,count_nil,Nh,Nn];omega
theorem FV(op:Int):(hg op).length<=2:=by
 unfold hg
 repeat' split
 all_goals decide
theorem ds{N:NI}(hN:dQ N):∀(d:Nat) (x:VE),x.src N d->Atom.count (cw x)<=cE d/\gb (cw x)<=bE d
 | d,.num n,h=>by
  have q:0<=n/\n<4611686018427387904:=by cases d<;>exact h
  have:=jM 18 n.toNat ad;have ac:=EJ d;have az:=wY d;simp only[cw,nP,count_nil,bs,cI,tH]
  omega
 | d,.gU s,h=>by
  have q:s∈N:=by cases d<;>exact h
  have:=eH (hN s q);have ac:=EJ d;have az:=wY d;simp only[cw,dj,count_nil,bs,cI,eG]
  omega
 | d,.loc _,h=>by cases d<;>exact h.elim
 | d,.ij _,h=>by cases d<;>exact h.elim
 | 0,.un _ _,h=>h.elim
 | 0,.bin _ _ _,h=>h.elim
 | d+1,.un op x,h=>by
  have aq:=ds hN d x h.2;have hp:=n8 (dJ op (a5 x) false) (cw x);have hs:(if op=3 then [45] else [33]:List UInt8).length=1:=by split<;>rfl
  simp only[cw,cy,bs,ej,hs,cE,bE]
  omega
 | d+1,.bin op x y,h=>by
  have i:=ds hN d x h.2.1;have c:=ds hN d y h.2.2;have hp:=n8 (dJ op (a5 x) false) (cw x);have bv:=n8 (dJ op (a5 y) true) (cw y);have hs:=FV op;simp only[cw,count_append,cV,cy,bD,bs,eQ,ej,cE,bE];omega
section
variable {G:Env} {V:NI} (hV:dQ V) (hG:ov G)
include hV hG
theorem mQ(r:eY)(h:rI G V r):Atom.count (iM r)<=22/\gb (iM r)<=118:=by
 have hn:bB r.name.data.toList=true:=by
  rcases h with⟨m,hm,he,_⟩|⟨hp,_⟩
  .rw[<-he];exact hG.af m hm
  .exact hG.params _ hp
 have hl:=eH hn;unfold iM
 cases aN:r.idx with
 | none=>
  exact Bb
 | some e=>
  have hs:e.src V 2:=by
   exact Il
  have aq:=ds hV 2 e hs;simp only[cE,bE] at aq;simp only[dj,cy,count_append,count_nil,bs,bD,cI,eG,ej,Nh,Nn];omega
theorem mP(p:ByteArray×Bool)(a:dq)(h:K8 G V p a):Atom.count (fR a)<=23/\gb (fR a)<=124:=by
 cases a with
 | ex e=>
  have aq:=ds hV 2 e h.2;simp only[cE,bE] at aq;show Atom.count (cw e)<=23/\gb (cw e)<=124
  omega
 | mx r=>
  have aq:=mQ hV hG r h.2;simp only[fR,ef,cV,bs,g4,eQ];have:gh.length=5:=rfl;omega
theorem oK:∀(ps:List (ByteArray×Bool)) (aY:List dq),ix G V ps aY->Atom.count (ei (aY.map fR))<=24*ps.length/\gb (ei (aY.map fR))<=126*ps.length
 | [],[],_=>⟨MU _,MU _⟩
 | [p],[a],h=>by
  have:=mP hV hG p a h.1;simp only[M7,Nr,ei,Nh,Nn]
  omega
 | p::q::ps,a::b::aY,h=>by
  have ac:=mP hV hG p a h.1;have aq:=oK (q::ps) (b::aY) h.2;simp only[M7] at aq;simp only[M7,ei,count_append,cy,cV,bD,bs,ej,eQ,Nh,Nn] at aq ⊢
  omega
 | [],_::_,h=>h.elim
 | _::_,[],h=>h.elim
 | [_],_::_::_,h=>h.2.elim
 | _::_::_,[_],h=>h.2.elim
theorem rM(ps:List (ByteArray×Bool))(aY:List dq)(h:ix G V ps aY)(hp:ps.length<=2):Atom.count (jm aY)<=50/\gb (jm aY)<=254:=by
 have:=oK hV hG ps aY h;simp only[jm,cy,count_append,count_nil,bs,bD,cI,ej,Nh,Nn];omega
end
theorem hj(t:Nat):Atom.count (fK t)=0/\gb (fK t)=t:=by
 induction t with
 | zero=>exact⟨rfl,rfl⟩
 | succ t aq=>
  have e:fK (t+1)=.ws 9::fK t:=rfl;rw[e,cV,bs,eQ];omega
theorem db{G:Env}(hG:ov G):∀(b:al) (d t:Nat) (V T:NI),dQ V->t+d<=8->eX G d V T b->Atom.count (aW t b)<=53*b.num/\gb (aW t b)<=400*b.num
 | .nil,d,t,V,T,_,_,_=>⟨MU _,MU _⟩
 | .set v n e rest,d,t,V,T,hV,ht,h=>by
  have bG:=hj t
  cases v with
  | true=>
   have q:bB n.data.toList=true/\n∉T/\e.src V 2/\eX G d (V++[n]) (T++[n]) rest:=by cases d<;>exact h
   have aq:=db hG rest d t _ _ (km hV q.1) ht q.2.2.2;have aF:=ds hV 2 e q.2.2.1;have hn:=eH q.1;simp only[cE,bE] at aF;simp only[aW,if_true,count_append,ef,cV,dj,cy,count_nil,bD,bs,cI,g4,eQ,eG,ej,al.num,Nh,Nn]
   omega
  | false=>
   have q:n∈V/\e.src V 2/\eX G d V T rest:=by cases d<;>exact h
   have aq:=db hG rest d t _ _ hV ht q.2.2;have aF:=ds hV 2 e q.2.1;have hn:=eH (hV n q.1);simp only[cE,bE] at aF;simp only[aW,Nz,if_false,count_append,cV,dj,cy,count_nil,bD,bs,cI,eQ,eG,ej,al.num,Nh,Nn]
   omega
 | .call g n aY rest,d,t,V,T,hV,ht,h=>by
  have bG:=hj t;have q:(∃ps,(n,ps)∈G.funcs/\ix G V ps aY)/\eX G d V T rest:=by cases d<;>exact h
  obtain⟨⟨ps,J,has⟩,ba⟩:=q;have aq:=db hG rest d t _ _ hV ht ba;have bF:=rM hV hG ps aY has (hG.funcs _ J).2;have hn:=eH (hG.funcs _ J).1;cases g<;>
  .simp only[aW,Nz,if_false,if_true,count_append,ef,cV,dj,cy,count_nil,bD,bs,cI,g4,eQ,eG,ej,al.num,Nh,Nn];simp only[] at hn
   omega
 | .lock u r rest,d,t,V,T,hV,ht,h=>by
  have bG:=hj t;have q:rI G V r/\eX G d V T rest:=by cases d<;>exact h
  have aq:=db hG rest d t _ _ hV ht q.2;have cx:=mQ hV hG r q.1;cases u<;>
  .simp only[aW,Nz,if_false,if_true,count_append,ef,cV,cy,bD,bs,g4,eQ,ej,al.num,Nh,Nn]
   omega
 | .ite e th el rest,0,t,V,T,hV,ht,h=>h.elim
 | .gM e th rest,0,t,V,T,hV,ht,h=>h.elim
 | .ite e th el rest,d+1,t,V,T,hV,ht,h=>by
  have bG:=hj t;have j:=db hG th d (t+1) _ _ hV ad h.2.1;have o:=db hG el d (t+1) _ _ hV ad h.2.2.1;have aq:=db hG rest (d+1) t _ _ hV ht h.2.2.2;have aF:=ds hV 2 e h.1;simp only[cE,bE] at aF;cases hn:el.isNil<;>
  .simp only[aW,hn,Nz,if_false,if_true,Nj,Nu,count_append,ef,cV,cy,count_nil,bD,bs,cI,g4,eQ,ej,al.num,Nh,Nn]
   omega
 | .gM e th rest,d+1,t,V,T,hV,ht,h=>by
  have bG:=hj t;have j:=db hG th d (t+1) _ _ hV ad h.2.1;have aq:=db hG rest (d+1) t _ _ hV ht h.2.2;have aF:=ds hV 2 e h.1;simp only[cE,bE] at aF;simp only[aW,count_append,ef,cV,cy,bD,bs,g4,eQ,ej,al.num,Nh,Nn]
  omega
 | .ret rest,d,t,V,T,hV,ht,h=>by
  have bG:=hj t;have q:eX G d V T rest:=by cases d<;>exact h
  have aq:=db hG rest d t _ _ hV ht q;simp only[aW,count_append,ef,cV,cy,bD,bs,g4,eQ,ej,al.num,Nh,Nn];omega
def h7(n:Int):List Atom:=if n<0 then [.sg [45],.num (jL n.natAbs)] else [.num (jL n.toNat)]
def h5(g:ByteArray×Int):List Atom:=kw [118,97,114]::.ws 32::.word g.1.data.toList::((if g.2=0 then [] else .ws 32::.sg [61]::.ws 32::h7 g.2)++[.sg [59],.ws 10])
def h6(m:bM):List Atom:=kw (if m.re then [114,109,117,116,101,120] else gh)::.ws 32::.word m.name.data.toList::((if 0<m.size then .sg [91]::(h7 m.size++[.sg [93]]) else [])++[.sg [59],.ws 10])
def g3(p:ByteArray×Bool):List Atom:=if p.2 then [kw gh,.ws 32,.word p.1.data.toList] else [.word p.1.data.toList]
def h4(f:aI):List Atom:=kw [102,117,110,99]::.ws 32::.word f.name.data.toList::.sg [40]::(ei (f.params.map g3)++(.sg [41]::.ws 32::.sg [123]::.ws 10::(aW 1 f.body++[.sg [125],.ws 10])))
def fS(p:bN):List Atom:=p.globals.flatMap h5++(p.af.flatMap h6++p.funcs.flatMap h4)
def fZ(p:bN):List ByteArray:=p.globals.map (·.1)
def bm(p:bN):List ByteArray:=fZ p++p.af.map (·.name)++p.funcs.map (·.name)
def sigs(p:bN):List (ByteArray×List (ByteArray×Bool)):=p.funcs.map λf=>(f.name,f.params)
def fG(p:bN)(f:aI):Env:=⟨p.af,f.params,sigs p⟩
def cH(ps:List (ByteArray×Bool)):List ByteArray:=(ps.filter λq=>!q.2).map (·.1)
structure MD(p:bN)(f:aI):Prop where
 params:∀q∈f.params,bB q.1.data.toList=true
 jo:f.params.length<=2
 fresh:(bm p++f.params.map (·.1)).Nodup
 body:eX (fG p f) 4 (fZ p++cH f.params) (bm p++f.params.map (·.1)) f.body
structure pe(p:bN):Prop where
 names:∀s∈bm p,bB s.data.toList=true
 nodup:(bm p).Nodup
 qM:p.globals.length<=16
 zX:p.af.length<=12
 Hc:p.funcs.length<=16
 inits:∀g∈p.globals,-9223372036854775807<=g.2/\g.2<=9223372036854775807
 gV:∀m∈p.af,0<=m.size/\m.size<=64/\(m.re=true->m.size=0)
 funcs:∀f∈p.funcs,MD p f
 main:∃(i:Nat) (f:aI),p.funcs[i]?=some f/\f.name=⟨#[109,97,105,110]⟩/\f.params=[]
 jo:(p.funcs.map λf=>f.body.num).sum<=64
theorem pe.env(h:pe p){f:aI}(J:f∈p.funcs):ov (fG p f) where
 af:=λm hm=>h.names _ (by simp only[bm,Nc,Ns];exact .inl (.inr ⟨m,hm,rfl⟩))
 params:=(h.funcs f J).params
 funcs:=λg aR=>by
  obtain⟨k,aj,rfl⟩:=Ns.1 aR;exact⟨h.names _ (by simp only[bm,Nc,Ns];exact .inr ⟨k,aj,rfl⟩),(h.funcs k aj).jo⟩
theorem pe.vars(h:pe p){f:aI}(J:f∈p.funcs):dQ (fZ p++cH f.params):=by
 intro s hs;rcases Nc.1 hs with hs|hs
 .exact h.names _ (by simp only[bm,Nc];exact .inl (.inl hs))
 .obtain⟨q,bv,rfl⟩:=Ns.1 hs;exact(h.funcs f J).params q (List.mem_filter.1 bv).1
theorem kf{α:Type}(f:α->List Atom):∀(l:List α),(∀x∈l,h8 (f x))->h8 (l.flatMap f)
 | [],_=>⟨trivial,λa h=>by simp at h⟩
 | x::l,h=>by
  have aq:=kf f l λy bb=>h y (by simp[bb]);have hx:=h x (by simp);refine⟨hx.app aq.1,λa bg=>?_⟩;rw[No,List.getLast?_append] at bg
  cases hl:(l.flatMap f).getLast? with
  | none=>rw[hl] at bg;exact hx.2 a (by simpa using bg)
  | some b=>
   rw[hl] at bg;simp at bg;subst bg;exact aq.2 b hl
theorem kh{α:Type}(f:α->List Atom)(g:α->Nat)(c k:Nat):∀(l:List α),(∀x∈l,Atom.count (f x)<=c+53*g x/\gb (f x)<=k+400*g x)->
  Atom.count (l.flatMap f)<=c*l.length+53*(l.map g).sum/\gb (l.flatMap f)<=k*l.length+400*(l.map g).sum
 | [],_=>⟨by simp[count_nil],by simp[cI]⟩
 | x::l,h=>by
  have aq:=kh f g c k l λy bb=>h y (by simp[bb]);have hx:=h x (by simp);simp only[No,count_append,bD,Nh,M7,List.sum_cons,Nat.mul_add,Nat.mul_one];omega
theorem JW{α:Type}(l:List α):(l.map λ_=>0).sum=0:=by induction l<;>simp_all
theorem qb(n:Int)(h:-9223372036854775807<=n/\n<=9223372036854775807):lT (h7 n)/\Atom.count (h7 n)<=2/\gb (h7 n)<=20:=by
 unfold h7;split
 .have aR:=qO (n:=n.natAbs) ad;have hl:=jM 18 n.natAbs ad;refine⟨Gf (.inl rfl) ⟨aR,⟨_,rfl,.inl ⟨rfl,aR⟩⟩,⟨_,rfl,.inl rfl⟩⟩,?_,?_⟩
  .simp only[cy,nP,count_nil];omega
  .simp only[bs,cI,ej,tH,Nh,Nn];omega
 .have aR:=qO (n:=n.toNat) ad;have hl:=jM 18 n.toNat ad;refine⟨⟨aR,⟨_,rfl,.inl ⟨rfl,aR⟩⟩,⟨_,rfl,.inl rfl⟩⟩,?_,?_⟩
  .simp only[nP,count_nil];omega
  .simp only[bs,cI,tH];omega
theorem HD:Atom.chain [.sg [59],.ws 10]:=cd (ct (.inl (by decide))) rfl rfl
theorem r4(g:ByteArray×Int)(hn:bB g.1.data.toList=true)(h:-9223372036854775807<=g.2/\g.2<=9223372036854775807):h8 (h5 g)/\Atom.count (h5 g)<=6/\gb (h5 g)<=50:=by
 have hl:=eH hn;obtain⟨aI,hc,O⟩:=qb g.2 h;have aj:(kw [118,97,114]).ga:=fN (by decide);refine⟨⟨?_,λa bg=>?_⟩,?_⟩
 .unfold h5;refine cd aj rfl (de rfl ?_);split
  .exact iN (dM hn) rfl HD
  .exact cd (dM hn) rfl (de rfl (cd (ct (.inl (by decide))) rfl (de rfl (ft aI (.inr (.inr (.inl rfl))) HD))))
 .unfold h5 at bg;exact AS
 .unfold h5;have aV:([118,97,114]:List UInt8).length=3:=rfl;split
  .simp only[Nu,ef,cV,dj,cy,count_nil,bs,cI,g4,eQ,eG,ej,Nh,Nn];omega
  .simp only[Nj,ef,cV,dj,cy,count_append,count_nil,bs,bD,cI,g4,eQ,eG,ej,Nh,Nn];omega
theorem r5(m:bM)(hn:bB m.name.data.toList=true)(h:0<=m.size/\m.size<=64):h8 (h6 m)/\Atom.count (h6 m)<=7/\gb (h6 m)<=50:=by
 have hl:=eH hn;obtain⟨aI,hc,O⟩:=qb m.size ad;have aj:(kw (if m.re then [114,109,117,116,101,120] else gh)).ga:=fN (by split<;>decide);have bP:(if m.re then [114,109,117,116,101,120] else gh:List UInt8).length<=6:=by split<;>decide
 refine⟨⟨?_,λa bg=>?_⟩,?_⟩
 .unfold h6;refine cd aj rfl (de rfl ?_);split
  .simp only[Nj,Ni];refine iN (dM hn) rfl (pw (.inr rfl) aI (ft aI (.inr (.inl rfl)) (c5 (ct (.inl (by decide))) HD λb O=>?_)));simp at O;subst O;exact py _ (.inr (.inr rfl)) _ (.inr (.inr (.inl rfl)))
  .exact iN (dM hn) rfl HD
 .unfold h6 at bg;exact AS
 .unfold h6;generalize (if m.re then [114,109,117,116,101,120] else gh:List UInt8)=s at *;split
  .simp only[Nj,ef,cV,dj,cy,count_append,count_nil,bs,bD,cI,g4,eQ,eG,ej,Nh,Nn];omega
  .simp only[Nu,ef,cV,dj,cy,count_nil,bs,cI,g4,eQ,eG,ej,Nh,Nn];omega
theorem nL(p:ByteArray×Bool)(hn:bB p.1.data.toList=true):lT (g3 p)/\Atom.count (g3 p)<=2/\gb (g3 p)<=22:=by
 have hl:=eH hn;have hw:=dM hn;have aj:(kw gh).ga:=fN (by decide);have cB:gh.length=5:=rfl;unfold g3;split
 .refine⟨⟨cd aj rfl (de rfl hw),⟨_,rfl,.inl ⟨rfl,aj⟩⟩,⟨_,rfl,.inl rfl⟩⟩,?_⟩;simp only[ef,cV,dj,count_nil,bs,cI,g4,eQ,eG];omega
 .refine⟨⟨hw,⟨_,rfl,.inl ⟨rfl,hw⟩⟩,⟨_,rfl,.inl rfl⟩⟩,?_⟩;exact Bb
theorem oL:∀(l:List (ByteArray×Bool)),(∀q∈l,bB q.1.data.toList=true)->Atom.count (ei (l.map g3))<=3*l.length/\gb (ei (l.map g3))<=24*l.length
 | [],_=>⟨MU _,MU _⟩
 | [p],h=>by
  have:=(nL p (h p (by simp))).2;simp only[M7,Nr,ei,Nh,Nn]
  omega
 | p::q::l,h=>by
  have ac:=(nL p (h p (by simp))).2;have aq:=oL (q::l) λx hx=>h x (by simp[hx]);simp only[M7] at aq;simp only[M7,ei,count_append,cy,cV,bD,bs,ej,eQ,Nh,Nn] at aq ⊢;omega
theorem r3(hp:pe p){f:aI}(J:f∈p.funcs):h8 (h4 f)/\Atom.count (h4 f)<=13+53*f.body.num/\gb (h4 f)<=80+400*f.body.num:=by
 have hF:=hp.funcs f J;have hn:bB f.name.data.toList=true:=hp.names _ (by simp only[bm,Nc,Ns];exact .inr ⟨f,J,rfl⟩);have hl:=eH hn;have hc:=da (hp.env J) f.body 4 1 _ _ (hp.vars J) hF.body;have aj:=db (hp.env J) f.body 4 1 _ _ (hp.vars J) ad hF.body;have bv:=oL f.params hF.params;have L:=hF.jo;have k:(Atom.sg [123]).ga:=ct (.inl (by decide));have i:Atom.chain [.sg [125],.ws 10]:=cd (ct (.inl (by decide))) rfl rfl;have e1:h8 (aW 1 f.body):=⟨hc,dV f.body 1⟩
 have tail:Atom.chain (.sg [41]::.ws 32::.sg [123]::.ws 10::(aW 1 f.body++[.sg [125],.ws 10])):=
  cd (ct (.inl (by decide))) rfl (de rfl (cd k rfl (de rfl (e1.app i))))
 refine⟨⟨?_,λa bg=>?_⟩,?_⟩
 .unfold h4;refine cd (fN (by decide)) rfl (de rfl (iN (dM hn) rfl ?_))
  cases cc:f.params with
  | nil=>
   refine c5 (ct (.inl (by decide))) tail λb O=>?_
   exact Ir
  | cons q l=>
   have hs:lT (ei ((q::l).map g3)):=nV _ (λa bg=>by
    obtain⟨x,hx,rfl⟩:=Ns.1 bg;exact(nL x (hF.params x (by rw[cc];exact hx))).1) (by simp)
   exact pw (.inl rfl) hs (ft hs (.inl rfl) tail)
 .unfold h4 at bg;exact(lU.cons (.cons (.cons (.cons (.app (.cons (.cons (.cons (.cons (.app (.cons (.nl (l:=[]) λa h=>by simp at h)))))))))))).2 a bg
 .have aU:([102,117,110,99]:List UInt8).length=4:=rfl;simp only[h4,ef,cV,dj,cy,count_append,count_nil,bs,bD,cI,g4,eQ,eG,ej,Nh,Nn];omega
theorem vu(hp:pe p):(dU (aV (fS p))).2.2=0:=by
 have aR:∀g∈p.globals,bB g.1.data.toList=true:=λg h=>hp.names _ (by simp only[bm,fZ,Nc,Ns];exact .inl (.inl ⟨g,h,rfl⟩));have hm:∀m∈p.af,bB m.name.data.toList=true:=λm h=>hp.names _ (by simp only[bm,Nc,Ns];exact .inl (.inr ⟨m,h,rfl⟩));have c1:=kf h5 p.globals λg h=>(r4 g (aR g h) (hp.inits g h)).1;have c2:=kf h6 p.af λm h=>(r5 m (hm m h) ⟨(hp.gV m h).1,(hp.gV m h).2.1⟩).1;have c3:=kf h4 p.funcs λf h=>(r3 hp h).1;have cw:=kh h5 (λ_=>0) 6 50 p.globals λg h=>by have:=(r4 g (aR g h) (hp.inits g h)).2;omega
 have bR:=kh h6 (λ_=>0) 7 50 p.af λm h=>by have:=(r5 m (hm m h) ⟨(hp.gV m h).1,(hp.gV m h).2.1⟩).2;omega
 have cS:=kh h4 (λf=>f.body.num) 13 80 p.funcs λf h=>(r3 hp h).2;rw[JW] at cw bR;have n1:=hp.qM;have n2:=hp.zX;have n3:=hp.Hc;have n4:=hp.jo;have hlen:(aV (fS p)).length<=262144:=by
  have:gb (fS p)=gb (p.globals.flatMap h5)+(gb (p.af.flatMap h6)+gb (p.funcs.flatMap h4)):=by unfold fS;rw[bD,bD]
  unfold gb at this cw bR cS;omega
 unfold dU;rw[if_neg ad];refine xi (fS p) _ _ [] ?_ (Nat.lt_succ_self _) ?_
 .exact c1.app (c2.app c3.1)
 .unfold fS;rw[count_append,count_append];simp only[Nn];omega
end Go.Proofs.YtnigabjngpnbiabGreat
