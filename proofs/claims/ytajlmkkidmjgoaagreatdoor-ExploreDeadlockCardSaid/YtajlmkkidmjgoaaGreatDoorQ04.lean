/- Part 4 of the proof. No condition of its own. -/
import Derived.Test.YtajlmkkidmjgoaaGreatDoorQ02
import Derived.Test.YtajlmkkidmjgoaaGreatDoorQ03
namespace Go.Proofs.YtajlmkkidmjgoaaGreatDoor
open Go.RowKit Go.Proofs.Tryz
set_option maxRecDepth 1000000
set_option maxHeartbeats 25600000
set_option linter.unusedVariables false
variable{a:Atom}{l m:List Atom}{s:List UInt8}{c:UInt8}{p:bC}
def aZ:VE->Int
 | .num _=>1
 | .gI _=>2
 | .loc _=>18
 | .iq _=>19
 | .un op _=>op
 | .bin op _ _=>op
def cC(op:Int):Int:=if op=17 then 0 else if op=16 then 1 else if 10<=op/\op<=15 then 2 else if op=8\/op=9 then 3 else if 5<=op/\op<=7 then 4 else if op=3\/op=4 then 5 else 6
def df(op arg:Int)(second:Bool):Bool:=decide (cC arg<cC op) || (cC arg == cC op && second)
def gA(op:Int):List UInt8:=
 if op=5 then [42] else if op=6 then [47] else if op=7 then [37] else if op=8 then [43] else if op=9 then [45] else if op=10 then [60] else if op=11 then [60,61]
 else if op=12 then [62] else if op=13 then [62,61] else if op=14 then [61,61] else if op=15 then [33,61] else if op=16 then [38,38] else [124,124]
def par(b:Bool)(aJ:List Atom):List Atom:=if b then .sg [40]::(aJ++[.sg [41]]) else aJ
def b3:VE->List Atom
 | .num n=>[.num (iN n.toNat)]
 | .gI s=>[.word s.data.toList]
 | .loc _=>[]
 | .iq _=>[]
 | .un op x=>.sg (if op=3 then [45] else [33])::par (df op (aZ x) false) (b3 x)
 | .bin op x y=>par (df op (aZ x) false) (b3 x)++(.ws 32::.sg (gA op)::.ws 32::par (df op (aZ y) true) (b3 y))
def VE.src(N:IQ):Nat->VE->Prop
 | _,.num n=>0<=n/\n<4611686018427387904
 | _,.gI s=>s∈N
 | _,.loc _=>False
 | _,.iq _=>False
 | 0,.un _ _=>False
 | 0,.bin _ _ _=>False
 | d+1,.un op x=>(op=3\/op=4)/\VE.src N d x
 | d+1,.bin op x y=>(5<=op/\op<=17)/\VE.src N d x/\VE.src N d y
def dr(N:IQ):Prop:=∀s∈N,br s.data.toList=true
structure kW(aJ:List Atom):Prop where
 chain:Atom.chain aJ
 first:∃a,aJ.head?=some a/\rI a
 last:∃a,aJ.getLast?=some a/\Eh a
theorem getLast_append{aJ f:List Atom}(h:f.getLast?=some a):(aJ++f).getLast?=some a:=by
 rw[List.getLast?_append,h];rfl
theorem head_append{aJ f:List Atom}(h:aJ.head?=some a):(aJ++f).head?=some a:=by
 rw[List.head?_append,h];rfl
theorem cA{aJ:List Atom}(I:a.fK)(h:Atom.chain aJ)(aA:∀b,aJ.head?=some b->a.fits b):Atom.chain (a::aJ):=
 dV [a] aJ I h λx b hx O=>by
  simp at hx;subst hx;exact aA b O
theorem b0(h:s∈ey\/s∈eT):(Atom.sg s).fK:=h.symm
theorem kW.par{aJ:List Atom}(h:kW aJ)(b:Bool):kW (par b aJ):=by
 cases b
 .exact h
 .obtain⟨a,I,hs⟩:=h.first;obtain⟨z,bi,he⟩:=h.last;refine⟨?_,⟨_,rfl,.inr (.inr (.inr rfl))⟩,⟨.sg [41],?_,.inr (.inl rfl)⟩⟩
  .refine cA (b0 (.inl (by decide))) (dV _ _ h.chain (b0 (.inl (by decide))) λx y hx a4=>?_) λy a4=>?_
   .rw[bi] at hx;injection hx with hx;subst hx;simp at a4;subst a4;exact nZ _ he _ (.inl rfl)
   .rw[head_append I] at a4;injection a4 with a4;subst a4;exact m2 _ (.inr (.inr (.inl rfl))) _ hs
  .show (Atom.sg [40]::(aJ++[Atom.sg [41]])).getLast?=some (.sg [41])
   rw[<-List.cons_append];exact getLast_append rfl
theorem uV(op:Int):gA op∈ey\/gA op∈eT:=by
 unfold gA
 repeat' split
 all_goals first|exact .inl (by decide)|exact .inr (by decide)
theorem dk(h:br s=true):(Atom.word s).fK:=by
 cases s with
 | nil=>simp[br] at h
 | cons c l=>
  simp only[br,Il,IG] at h;exact⟨⟨c,l,rfl,h.1.1.1,h.1.1.2⟩,.inr h.1.2⟩
theorem pg{n:Nat}(h:n<=9223372036854775807):(Atom.num (iN n)).fK:=by
 obtain⟨ac,J⟩:=sd n;exact⟨J,ac,by rw[xn n h];omega⟩
theorem Ci{aJ:List Atom}(hs:s=[45]\/s=[33])(h:kW aJ):kW (.sg s::aJ):=by
 obtain⟨a,I,b1⟩:=h.first;obtain⟨z,bi,he⟩:=h.last;refine⟨cA (b0 (.inl (by rcases hs with rfl|rfl<;>decide))) h.chain λb O=>?_,⟨_,rfl,by rcases hs with rfl|rfl<;>simp[rI]⟩,⟨z,?_,he⟩⟩
 .rw[I] at O;injection O with O;subst O;exact m2 _ (by rcases hs with rfl|rfl<;>simp) _ b1
 .show ([Atom.sg s]++aJ).getLast?=some z
  exact getLast_append bi
theorem dU{N:IQ}(hN:dr N):∀(d:Nat) (x:VE),x.src N d->kW (b3 x)
 | d,.num n,h=>by
  have F:0<=n/\n<4611686018427387904:=by cases d<;>exact h
  have aM:=pg (n:=n.toNat) ad
  exact⟨aM,⟨_,rfl,.inl ⟨rfl,aM⟩⟩,⟨_,rfl,.inl rfl⟩⟩
 | d,.gI s,h=>by
  have F:s∈N:=by cases d<;>exact h
  have aM:=dk (hN s F)
  exact⟨aM,⟨_,rfl,.inl ⟨rfl,aM⟩⟩,⟨_,rfl,.inl rfl⟩⟩
 | d,.loc _,h=>by cases d<;>exact h.elim
 | d,.iq _,h=>by cases d<;>exact h.elim
 | 0,.un _ _,h=>h.elim
 | 0,.bin _ _ _,h=>h.elim
 | d+1,.un op x,h=>by
  unfold b3
  exact Ci (by split<;>simp) ((dU hN d x h.2).par (df op (aZ x) false))
 | d+1,.bin op x y,h=>by
  have i:=(dU hN d x h.2.1).par (df op (aZ x) false);have c:=(dU hN d y h.2.2).par (df op (aZ y) true);unfold b3;generalize par (df op (aZ x) false) (b3 x)=aJ at *;generalize par (df op (aZ y) true) (b3 y)=f at *;obtain⟨a,I,b1⟩:=i.first;obtain⟨z,bi,he⟩:=c.last;refine⟨dV _ _ i.chain ?_ ?_,⟨a,head_append I,b1⟩,⟨z,getLast_append ?_,he⟩⟩
  .refine cA rfl (cA (b0 (uV op)) (cA rfl c.chain λb _=>oc _ b) λb O=>?_) λb _=>oc _ b;simp at O;subst O;exact n3 _ _ rfl
  .intro x y _ a4;simp at a4;subst a4;exact n3 _ _ rfl
  .show ([Atom.ws 32,Atom.sg (gA op),Atom.ws 32]++f).getLast?=some z
   exact getLast_append bi
structure Env where
 af:List bJ
 params:List (ByteArray×Bool)
 funcs:List (ByteArray×List (ByteArray×Bool))
def rU(G:Env)(V:IQ)(r:eC):Prop:=
 (∃m∈G.af,m.name=r.name/\(0<m.size->∃e,r.idx=some e/\e.src V 2)/\(¬0<m.size->r.idx=none))\/((r.name,true)∈G.params/\r.idx=none)
def Gq(G:Env)(V:IQ)(p:ByteArray×Bool):cW->Prop
 | .mx r=>p.2=true/\rU G V r
 | .ex e=>p.2=false/\e.src V 2
def h9(G:Env)(V:IQ):List (ByteArray×Bool)->List cW->Prop
 | [],[]=>True
 | p::ps,a::aJ=>Gq G V p a/\h9 G V ps aJ
 | _,_=>False
def eJ(G:Env):(d:Nat)->(V T:IQ)->ak->Prop
 | _,_,_,.nil=>True
 | d,V,T,.set true n e rest=>br n.data.toList=true/\n∉T/\e.src V 2/\eJ G d (V++[n]) (T++[n]) rest
 | d,V,T,.set false n e rest=>n∈V/\e.src V 2/\eJ G d V T rest
 | d,V,T,.call _ n aJ rest=>(∃ps,(n,ps)∈G.funcs/\h9 G V ps aJ)/\eJ G d V T rest
 | d,V,T,.lock _ r rest=>rU G V r/\eJ G d V T rest
 | 0,_,_,.ite ..=>False
 | 0,_,_,.fY ..=>False
 | d+1,V,T,.ite e th el rest=>e.src V 2/\eJ G d V T th/\eJ G d V T el/\eJ G (d+1) V T rest
 | d+1,V,T,.fY e th rest=>e.src V 2/\eJ G d V T th/\eJ G (d+1) V T rest
 | d,V,T,.ret rest=>eJ G d V T rest
def ak.isNil:ak->Bool
 | .nil=>true
 | _=>false
def ak.num:ak->Nat
 | .nil=>0
 | .set _ _ _ rest=>rest.num+1
 | .call _ _ _ rest=>rest.num+1
 | .lock _ _ rest=>rest.num+1
 | .ite _ th el rest=>th.num+el.num+rest.num+1
 | .fY _ th rest=>th.num+rest.num+1
 | .ret rest=>rest.num+1
def kw(s:List UInt8):Atom:=.word s
def hL(r:eC):List Atom:=.word r.name.data.toList::(match r.idx with|none=>[]|some e=>.sg [91]::(b3 e++[.sg [93]]))
def fx:List UInt8:=[109,117,116,101,120]
def fb:cW->List Atom
 | .mx r=>kw fx::.ws 32::hL r
 | .ex e=>b3 e
def dL:List (List Atom)->List Atom
 | []=>[]
 | [a]=>a
 | a::b::l=>a++(.sg [44]::.ws 32::dL (b::l))
def ij(aJ:List cW):List Atom:=.sg [40]::(dL (aJ.map fb)++[.sg [41]])
def e4(n:Nat):List Atom:=List.replicate n (.ws 9)
def aS:Nat->ak->List Atom
 | _,.nil=>[]
 | t,.set v n e rest=>e4 t++((if v then [kw [118,97,114],.ws 32] else [])++(.word n.data.toList::.ws 32::.sg [61]::.ws 32::(b3 e++(.sg [59]::.ws 10::aS t rest))))
 | t,.call g n aJ rest=>e4 t++((if g then [kw [103,111],.ws 32] else [])++(.word n.data.toList::(ij aJ++(.sg [59]::.ws 10::aS t rest))))
 | t,.lock u r rest=>e4 t++(kw (if u then [117,110,108,111,99,107] else [108,111,99,107])::.ws 32::(hL r++(.sg [59]::.ws 10::aS t rest)))
 | t,.ite e th el rest=>e4 t++(kw [105,102]::.ws 32::(b3 e++(.ws 32::.sg [123]::.ws 10::(aS (t+1) th++(e4 t++(.sg [125] ::
   ((if el.isNil then [] else .ws 32::kw [101,108,115,101]::.ws 32::.sg [123]::.ws 10::(aS (t+1) el++(e4 t++[.sg [125]])))++(.ws 10::aS t rest))))))))
 | t,.fY e th rest=>e4 t++(kw [119,104,105,108,101]::.ws 32::(b3 e++(.ws 32::.sg [123]::.ws 10::(aS (t+1) th++(e4 t++(.sg [125]::.ws 10::aS t rest))))))
 | t,.ret rest=>e4 t++(kw [114,101,116,117,114,110]::.sg [59]::.ws 10::aS t rest)
theorem fa(h:s∈rW):(kw s).fK:=by
 have key:∀s∈rW,(match s with|[]=>false|c::l=>bO c && l.all bY)=true:=by decide
 have:=key s h
 cases s with
 | nil=>cases this
 | cons c l=>
  simp only[Il] at this;exact⟨⟨c,l,rfl,this.1,this.2⟩,.inl (by simpa[c5] using h)⟩
section
variable {aJ f:List Atom}
theorem cM(hc:ob c=true)(h:Atom.chain aJ):Atom.chain (.ws c::aJ):=cA hc h λb _=>oc c b
theorem bT(I:a.fK)(hc:ob c=true)(h:Atom.chain (.ws c::aJ)):Atom.chain (a::.ws c::aJ):=
 cA I h λb O=>by
  simp at O;subst O;exact n3 _ _ hc
theorem hM(I:a.fK)(hl:a.jY=true)(h:Atom.chain (.sg s::aJ)):Atom.chain (a::.sg s::aJ):=
 cA I h λb O=>by
  simp at O;subst O;exact vR _ _ hl rfl
theorem eM(ac:kW aJ)(hs:s=[41]\/s=[93]\/s=[59]\/s=[44])(h:Atom.chain (.sg s::f)):Atom.chain (aJ++.sg s::f):=
 dV _ _ ac.chain h λa b I O=>by
  obtain⟨z,bi,he⟩:=ac.last;rw[bi] at I;injection I with I;subst I;simp at O;subst O;exact nZ _ he _ hs
theorem qb(ac:Atom.chain aJ)(hc:ob c=true)(h:Atom.chain (.ws c::f)):Atom.chain (aJ++.ws c::f):=
 dV _ _ ac h λa b _ O=>by
  simp at O;subst O;exact n3 _ _ hc
theorem nX(hs:s=[40]\/s=[91])(ac:kW aJ)(h:Atom.chain (aJ++f)):Atom.chain (.sg s::(aJ++f)):=
 cA (b0 (.inl (by rcases hs with rfl|rfl<;>decide))) h λb O=>by
  obtain⟨a,I,b1⟩:=ac.first;rw[head_append I] at O;injection O with O;subst O;exact m2 _ (by rcases hs with rfl|rfl<;>simp) _ b1
def g4(aJ:List Atom):Prop:=Atom.chain aJ/\∀a,aJ.getLast?=some a->∃c,a=.ws c
theorem g4.app(h:g4 aJ)(O:Atom.chain f):Atom.chain (aJ++f):=
 dV _ _ h.1 O λa b I _=>by
  obtain⟨c,rfl⟩:=h.2 a I;exact oc _ _
theorem fW(n:Nat):g4 (e4 n):=by
 induction n with
 | zero=>exact⟨trivial,λa h=>by simp[e4] at h⟩
 | succ n aa=>
  refine⟨cM rfl aa.1,λa h=>?_⟩;simp only[e4,List.getLast?_replicate] at h;simp at h;exact⟨9,h.symm⟩
theorem sB(h:∀a,m.getLast?=some a->∃c,a=.ws c)(hm:m≠[])(I:(l++m).getLast?=some a):∃c,a=.ws c:=by
 rw[List.getLast?_append] at I
 cases hl:m.getLast? with
 | none=>exact absurd (List.getLast?_eq_none_iff.1 hl) hm
 | some b=>
  rw[hl] at I;simp at I;subst I;exact h _ hl
end
theorem oA{G:Env}{V:IQ}(hV:dr V)(a6:∀m∈G.af,br m.name.data.toList=true)(U:∀p∈G.params,br p.1.data.toList=true)(r:eC)(h:rU G V r):kW (hL r):=by
 have hn:(Atom.word r.name.data.toList).fK:=by
  rcases h with⟨m,hm,he,_⟩|⟨hp,_⟩
  .rw[<-he];exact dk (a6 m hm)
  .exact dk (U _ hp)
 unfold hL
 cases ak:r.idx with
 | none=>exact⟨hn,⟨_,rfl,.inl ⟨rfl,hn⟩⟩,⟨_,rfl,.inl rfl⟩⟩
 | some e=>
  have hs:e.src V 2:=by
   exact DW
  have aa:=dU hV 2 e hs;refine⟨hM hn rfl (nX (.inr rfl) aa (eM aa (.inr (.inl rfl)) (b0 (.inl (by decide))))),⟨_,rfl,.inl ⟨rfl,hn⟩⟩,⟨.sg [93],?_,.inr (.inr rfl)⟩⟩;show ((Atom.word r.name.data.toList::.sg [91]::b3 e)++[Atom.sg [93]]).getLast?=_
  exact getLast_append rfl
theorem mT:∀(l:List (List Atom)),(∀a∈l,kW a)->l≠[]->kW (dL l)
 | [],_,h=>absurd rfl h
 | [a],h,_=>h a (by simp)
 | a::b::l,h,_=>by
  have aa:=mT (b::l) (λx hx=>h x (by simp[hx])) (by simp);have I:=h a (by simp);obtain⟨x,hx,hs⟩:=I.first;obtain⟨z,bi,he⟩:=aa.last;refine⟨eM I (.inr (.inr (.inr rfl))) (bT (b0 (.inl (by decide))) rfl (cM rfl aa.chain)),⟨x,head_append hx,hs⟩,⟨z,?_,he⟩⟩;show (a++([Atom.sg [44],Atom.ws 32]++dL (b::l))).getLast?=some z
  exact getLast_append (getLast_append bi)
section
variable {G:Env} {V:IQ} (hV:dr V) (a6:∀m∈G.af,br m.name.data.toList=true) (U:∀p∈G.params,br p.1.data.toList=true)
include hV a6 U
theorem tS(p:ByteArray×Bool)(a:cW)(h:Gq G V p a):kW (fb a):=by
 cases a with
 | ex e=>exact dU hV 2 e h.2
 | mx r=>
  have aa:=oA hV a6 U r h.2;have ap:(kw fx).fK:=fa (by decide);obtain⟨z,bi,he⟩:=aa.last;refine⟨bT ap rfl (cM rfl aa.chain),⟨_,rfl,.inl ⟨rfl,ap⟩⟩,⟨z,?_,he⟩⟩;show ([kw fx,Atom.ws 32]++hL r).getLast?=some z
  exact getLast_append bi
theorem tq:∀(ps:List (ByteArray×Bool)) (aJ:List cW),h9 G V ps aJ->(∀a∈aJ.map fb,kW a)/\aJ.length=ps.length
 | [],[],_=>⟨λa h=>by simp at h,rfl⟩
 | p::ps,a::aJ,h=>by
  obtain⟨ac,J⟩:=tq ps aJ h.2;refine⟨λx hx=>?_,by simp[J]⟩;simp only[Ie,Iq] at hx;rcases hx with rfl|hx
  .exact tS hV a6 U p a h.1
  .exact ac x hx
 | [],_::_,h=>h.elim
 | _::_,[],h=>h.elim
theorem pU(ps:List (ByteArray×Bool))(aJ:List cW)(h:h9 G V ps aJ){f:List Atom}(O:Atom.chain (.sg [59]::f)):Atom.chain (ij aJ++.sg [59]::f):=by
 have d:Atom.chain (.sg [41]::.sg [59]::f):=cA (b0 (.inl (by decide))) O λb O=>by
  simp at O;subst O;exact nZ _ (.inr (.inl rfl)) _ (.inr (.inr (.inl rfl)))
 obtain⟨ac,_⟩:=tq hV a6 U ps aJ h
 cases aJ with
 | nil=>
  refine cA (b0 (.inl (by decide))) d λb O=>?_
  exact D1
 | cons a l=>
  have aa:=mT ((a::l).map fb) ac (by simp);show Atom.chain (Atom.sg [40]::((dL ((a::l).map fb)++[Atom.sg [41]])++Atom.sg [59]::f))
  rw[Io];exact nX (.inl rfl) aa (eM aa (.inl rfl) d)
end
def kX(l:List Atom):Prop:=l≠[]/\∀a,l.getLast?=some a->∃c,a=.ws c
theorem kX.cons{x:Atom}(h:kX l):kX (x::l):=
 ⟨by simp,λa I=>sB (l:=[x]) h.2 h.1 (by simpa using I)⟩
theorem kX.app(h:kX m):kX (l++m):=
 ⟨by have:=h.1;simp[this],λa I=>sB h.2 h.1 I⟩
theorem kX.nl(h:∀a,l.getLast?=some a->∃c,a=.ws c):kX (.ws 10::l):=by
 refine⟨by simp,λa I=>?_⟩
 cases l with
 | nil=>simp at I;exact⟨10,I.symm⟩
 | cons x l=>exact h a (by rw[List.getLast?_cons_cons] at I;exact I)
theorem dy:∀(b:ak) (t:Nat) (a:Atom),(aS t b).getLast?=some a->∃c,a=.ws c
 | .nil,t,a,h=>by simp[aS] at h
 | .set v n e rest,t,a,h=>by
  unfold aS at h
  exact(kX.app (.app (.cons (.cons (.cons (.cons (.app (.cons (.nl (dy rest t)))))))))).2 a h
 | .call g n aJ rest,t,a,h=>by
  unfold aS at h
  exact(kX.app (.app (.cons (.app (.cons (.nl (dy rest t))))))).2 a h
 | .lock u r rest,t,a,h=>by
  unfold aS at h
  exact(kX.app (.cons (.cons (.app (.cons (.nl (dy rest t))))))).2 a h
 | .ite e th el rest,t,a,h=>by
  unfold aS at h
  exact(kX.app (.cons (.cons (.app (.cons (.cons (.cons (.app (.app (.cons (.app (.nl (dy rest t))))))))))))).2 a h
 | .fY e th rest,t,a,h=>by
  unfold aS at h
  exact(kX.app (.cons (.cons (.app (.cons (.cons (.cons (.app (.app (.cons (.nl (dy rest t)))))))))))).2 a h
 | .ret rest,t,a,h=>by
  unfold aS at h;exact(kX.app (.cons (.cons (.nl (dy rest t))))).2 a h
structure nc(G:Env):Prop where
 af:∀m∈G.af,br m.name.data.toList=true
 params:∀p∈G.params,br p.1.data.toList=true
 funcs:∀f∈G.funcs,br f.1.data.toList=true/\f.2.length<=2
theorem jA{V:IQ}{n:ByteArray}(h:dr V)(hn:br n.data.toList=true):dr (V++[n]):=by
 intro s hs;simp only[Ii,ID] at hs;rcases hs with hs|rfl
 .exact h s hs
 .exact hn
theorem cG{G:Env}(bS:nc G):∀(b:ak) (d t:Nat) (V T:IQ),dr V->eJ G d V T b->Atom.chain (aS t b)
 | .nil,d,t,V,T,_,_=>trivial
 | .set v n e rest,d,t,V,T,hV,h=>by
  have a:(Atom.sg [59]).fK:=b0 (.inl (by decide));have f:(Atom.sg [61]).fK:=b0 (.inl (by decide));unfold aS
  cases v with
  | true=>
   have F:br n.data.toList=true/\n∉T/\e.src V 2/\eJ G d (V++[n]) (T++[n]) rest:=by cases d<;>exact h
   have aa:=cG bS rest d t _ _ (jA hV F.1) F.2.2.2;have aw:=dU hV 2 e F.2.2.1
   exact(fW t).app (bT (fa (by decide)) rfl (cM rfl (bT (dk F.1) rfl (cM rfl (bT f rfl (cM rfl (eM aw (.inr (.inr (.inl rfl))) (bT a rfl (cM rfl aa)))))))))
  | false=>
   have F:n∈V/\e.src V 2/\eJ G d V T rest:=by cases d<;>exact h
   have aa:=cG bS rest d t _ _ hV F.2.2;have aw:=dU hV 2 e F.2.1
   exact(fW t).app (bT (dk (hV n F.1)) rfl (cM rfl (bT f rfl (cM rfl (eM aw (.inr (.inr (.inl rfl))) (bT a rfl (cM rfl aa)))))))
 | .call g n aJ rest,d,t,V,T,hV,h=>by
  have F:(∃ps,(n,ps)∈G.funcs/\h9 G V ps aJ)/\eJ G d V T rest:=by cases d<;>exact h
  obtain⟨⟨ps,aA,has⟩,aY⟩:=F;have aa:=cG bS rest d t _ _ hV aY;have a:(Atom.sg [59]).fK:=b0 (.inl (by decide));have bj:=pU hV bS.af bS.params ps aJ has (bT a rfl (cM (c:=10) rfl aa));have ba:Atom.chain (.word n.data.toList::(ij aJ++(.sg [59]::.ws 10::aS t rest))):=hM (dk (bS.funcs _ aA).1) rfl bj;unfold aS
  cases g with
  | true=>exact(fW t).app (bT (fa (by decide)) rfl (cM rfl ba))
  | false=>exact(fW t).app ba
 | .lock u r rest,d,t,V,T,hV,h=>by
  have F:rU G V r/\eJ G d V T rest:=by cases d<;>exact h
  have aa:=cG bS rest d t _ _ hV F.2;have cy:=oA hV bS.af bS.params r F.1;have a:(Atom.sg [59]).fK:=b0 (.inl (by decide));unfold aS
  exact(fW t).app (bT (fa (by cases u<;>decide)) rfl (cM rfl (eM cy (.inr (.inr (.inl rfl))) (bT a rfl (cM rfl aa)))))
 | .ite e th el rest,0,t,V,T,hV,h=>h.elim
 | .fY e th rest,0,t,V,T,hV,h=>h.elim
 | .ite e th el rest,d+1,t,V,T,hV,h=>by
  have j:=cG bS th d (t+1) _ _ hV h.2.1;have o:=cG bS el d (t+1) _ _ hV h.2.2.1;have aa:=cG bS rest (d+1) t _ _ hV h.2.2.2;have aw:=dU hV 2 e h.1;have k:(Atom.sg [123]).fK:=b0 (.inl (by decide));have i:(Atom.sg [125]).fK:=b0 (.inl (by decide));have e1:g4 (aS (t+1) th):=⟨j,dy th _⟩
  have e2:g4 (aS (t+1) el):=⟨o,dy el _⟩
  have cb:Atom.chain (.ws 10::aS t rest):=cM rfl aa;have tail:Atom.chain (.sg [125]::((if el.isNil then [] else .ws 32::kw [101,108,115,101]::.ws 32::.sg [123]::.ws 10::(aS (t+1) el++(e4 t++[.sg [125]])))++(.ws 10::aS t rest))):=by
   have b2:Atom.chain (.sg [125]::((.ws 32::kw [101,108,115,101]::.ws 32::.sg [123]::.ws 10::(aS (t+1) el++(e4 t++[.sg [125]])))++(.ws 10::aS t rest))):=by
    refine bT i rfl (cM rfl (bT (fa (by decide)) rfl (cM rfl (bT k rfl (cM rfl ?_)))));show Atom.chain ((aS (t+1) el++(e4 t++[Atom.sg [125]]))++(Atom.ws 10::aS t rest))
    rw[Io,Io];exact e2.app ((fW t).app (bT i rfl cb))
   split
   .exact bT i rfl cb
   .exact b2
  unfold aS
  exact(fW t).app (bT (fa (by decide)) rfl (cM rfl (qb aw.chain rfl (cM rfl (bT k rfl (cM rfl (e1.app ((fW t).app tail))))))))
 | .fY e th rest,d+1,t,V,T,hV,h=>by
  have j:=cG bS th d (t+1) _ _ hV h.2.1;have aa:=cG bS rest (d+1) t _ _ hV h.2.2;have aw:=dU hV 2 e h.1;have k:(Atom.sg [123]).fK:=b0 (.inl (by decide));have i:(Atom.sg [125]).fK:=b0 (.inl (by decide));have e1:g4 (aS (t+1) th):=⟨j,dy th _⟩
  unfold aS
  exact(fW t).app (bT (fa (by decide)) rfl (cM rfl (qb aw.chain rfl (cM rfl (bT k rfl (cM rfl (e1.app ((fW t).app (bT i rfl (cM rfl aa))))))))))
 | .ret rest,d,t,V,T,hV,h=>by
  have F:eJ G d V T rest:=by cases d<;>exact h
  have aa:=cG bS rest d t _ _ hV F;have a:(Atom.sg [59]).fK:=b0 (.inl (by decide));unfold aS;exact(fW t).app (hM (fa (by decide)) rfl (bT a rfl (cM rfl aa)))
theorem iO:∀(k n:Nat),n<10 ^ (k+1)->(iN n).length<=k+1
 | k,n,h=>by
  rw[iN];split
  .simp
  .cases k with
   | zero=>simp at h;omega
   | succ k=>
    have:=iO k (n / 10) (by rw[Nat.div_lt_iff_lt_mul ad,<-Nat.pow_succ];exact h);simp;omega
 termination_by k=>k
theorem ef(h:br s=true):s.length<=16:=by
 simp only[br,Il,IG] at h;exact h.1.2
def fp(aJ:List Atom):Nat:=(aR aJ).length
theorem bq(aJ f:List Atom):fp (aJ++f)=fp aJ+fp f:=by unfold fp;rw[a1,Hz]
theorem a8(a:Atom)(f:List Atom):fp (a::f)=a.bytes.length+fp f:=by unfold fp;rw[aY,Hz]
theorem cm:fp []=0:=rfl
theorem cx(c:UInt8)(aJ:List Atom):Atom.count (.ws c::aJ)=Atom.count aJ:=rfl
theorem cR(c:List UInt8)(aJ:List Atom):Atom.count (.word c::aJ)=Atom.count aJ+1:=rfl
theorem mN(c:List UInt8)(aJ:List Atom):Atom.count (.num c::aJ)=Atom.count aJ+1:=rfl
theorem cb(c:List UInt8)(aJ:List Atom):Atom.count (.sg c::aJ)=Atom.count aJ+1:=rfl
theorem dF(c:List UInt8)(aJ:List Atom):Atom.count (kw c::aJ)=Atom.count aJ+1:=rfl
theorem count_nil:Atom.count []=0:=rfl
theorem et(c:UInt8):(Atom.ws c).bytes.length=1:=rfl
theorem dZ(c:List UInt8):(Atom.word c).bytes.length=c.length:=rfl
theorem gp(c:List UInt8):(kw c).bytes.length=c.length:=rfl
theorem rl(c:List UInt8):(Atom.num c).bytes.length=c.length:=rfl
theorem dM(c:List UInt8):(Atom.sg c).bytes.length=c.length:=rfl
def cE:Nat->Nat
 | 0=>1
 | d+1=>2*(cE d+2)+1
def bE:Nat->Nat
 | 0=>19
 | d+1=>2*(bE d+2)+4
theorem AN:∀d,1<=cE d
 | 0=>Hx _
 | d+1=>by unfold cE;omega
theorem tU:∀d,19<=bE d
 | 0=>Hx _
 | d+1=>by have:=tU d;unfold bE;omega
theorem mY(b:Bool)(aJ:List Atom):Atom.count (par b aJ)<=Atom.count aJ+2/\fp (par b aJ)<=fp aJ+2:=by
 cases b
 .exact⟨by simp[par],by simp[par]⟩
 .simp only[par,if_true,cb,count_append,a8,bq,cm,dM,count_nil,Im,Iu];omega
theorem B0(op:Int):(gA op).length<=2:=by
 unfold gA
 repeat' split
 all_goals decide
theorem cX{N:IQ}(hN:dr N):∀(d:Nat) (x:VE),x.src N d->Atom.count (b3 x)<=cE d/\fp (b3 x)<=bE d
 | d,.num n,h=>by
  have F:0<=n/\n<4611686018427387904:=by cases d<;>exact h
  have:=iO 18 n.toNat ad;have ac:=AN d;have J:=tU d;simp only[b3,mN,count_nil,a8,cm,rl]
  omega
 | d,.gI s,h=>by
  have F:s∈N:=by cases d<;>exact h
  have:=ef (hN s F);have ac:=AN d;have J:=tU d;simp only[b3,cR,count_nil,a8,cm,dZ]
  omega
 | d,.loc _,h=>by cases d<;>exact h.elim
 | d,.iq _,h=>by cases d<;>exact h.elim
 | 0,.un _ _,h=>h.elim
 | 0,.bin _ _ _,h=>h.elim
 | d+1,.un op x,h=>by
  have aa:=cX hN d x h.2;have hp:=mY (df op (aZ x) false) (b3 x);have hs:(if op=3 then [45] else [33]:List UInt8).length=1:=by split<;>rfl
  simp only[b3,cb,a8,dM,hs,cE,bE]
  omega
 | d+1,.bin op x y,h=>by
  have i:=cX hN d x h.2.1;have c:=cX hN d y h.2.2;have hp:=mY (df op (aZ x) false) (b3 x);have bp:=mY (df op (aZ y) true) (b3 y);have hs:=B0 op;simp only[b3,count_append,cx,cb,bq,a8,et,dM,cE,bE];omega
section
variable {G:Env} {V:IQ} (hV:dr V) (bS:nc G)
include hV bS
theorem lX(r:eC)(h:rU G V r):Atom.count (hL r)<=22/\fp (hL r)<=118:=by
 have hn:br r.name.data.toList=true:=by
  rcases h with⟨m,hm,he,_⟩|⟨hp,_⟩
  .rw[<-he];exact bS.af m hm
  .exact bS.params _ hp
 have hl:=ef hn;unfold hL
 cases ak:r.idx with
 | none=>
  exact yn
 | some e=>
  have hs:e.src V 2:=by
   exact DW
  have aa:=cX hV 2 e hs;simp only[cE,bE] at aa;simp only[cR,cb,count_append,count_nil,a8,bq,cm,dZ,dM,Im,Iu];omega
theorem lW(p:ByteArray×Bool)(a:cW)(h:Gq G V p a):Atom.count (fb a)<=23/\fp (fb a)<=124:=by
 cases a with
 | ex e=>
  have aa:=cX hV 2 e h.2;simp only[cE,bE] at aa;show Atom.count (b3 e)<=23/\fp (b3 e)<=124
  omega
 | mx r=>
  have aa:=lX hV bS r h.2;simp only[fb,dF,cx,a8,gp,et];have:fx.length=5:=rfl;omega
theorem nz:∀(ps:List (ByteArray×Bool)) (aJ:List cW),h9 G V ps aJ->Atom.count (dL (aJ.map fb))<=24*ps.length/\fp (dL (aJ.map fb))<=126*ps.length
 | [],[],_=>⟨Hx _,Hx _⟩
 | [p],[a],h=>by
  have:=lW hV bS p a h.1;simp only[Ie,Iy,dL,Im,Iu]
  omega
 | p::q::ps,a::b::aJ,h=>by
  have ac:=lW hV bS p a h.1;have aa:=nz (q::ps) (b::aJ) h.2;simp only[Ie] at aa;simp only[Ie,dL,count_append,cb,cx,bq,a8,dM,et,Im,Iu] at aa ⊢
  omega
 | [],_::_,h=>h.elim
 | _::_,[],h=>h.elim
 | [_],_::_::_,h=>h.2.elim
 | _::_::_,[_],h=>h.2.elim
theorem pV(ps:List (ByteArray×Bool))(aJ:List cW)(h:h9 G V ps aJ)(hp:ps.length<=2):Atom.count (ij aJ)<=50/\fp (ij aJ)<=254:=by
 have:=nz hV bS ps aJ h;simp only[ij,cb,count_append,count_nil,a8,bq,cm,dM,Im,Iu];omega
end
theorem gC(t:Nat):Atom.count (e4 t)=0/\fp (e4 t)=t:=by
 induction t with
 | zero=>exact⟨rfl,rfl⟩
 | succ t aa=>
  have e:e4 (t+1)=.ws 9::e4 t:=rfl;rw[e,cx,a8,et];omega
theorem cH{G:Env}(bS:nc G):∀(b:ak) (d t:Nat) (V T:IQ),dr V->t+d<=8->eJ G d V T b->Atom.count (aS t b)<=53*b.num/\fp (aS t b)<=400*b.num
 | .nil,d,t,V,T,_,_,_=>⟨Hx _,Hx _⟩
 | .set v n e rest,d,t,V,T,hV,ht,h=>by
  have W:=gC t
  cases v with
  | true=>
   have F:br n.data.toList=true/\n∉T/\e.src V 2/\eJ G d (V++[n]) (T++[n]) rest:=by cases d<;>exact h
   have aa:=cH bS rest d t _ _ (jA hV F.1) ht F.2.2.2;have aw:=cX hV 2 e F.2.2.1;have hn:=ef F.1;simp only[cE,bE] at aw;simp only[aS,if_true,count_append,dF,cx,cR,cb,count_nil,bq,a8,cm,gp,et,dZ,dM,ak.num,Im,Iu]
   omega
  | false=>
   have F:n∈V/\e.src V 2/\eJ G d V T rest:=by cases d<;>exact h
   have aa:=cH bS rest d t _ _ hV ht F.2.2;have aw:=cX hV 2 e F.2.1;have hn:=ef (hV n F.1);simp only[cE,bE] at aw;simp only[aS,II,if_false,count_append,cx,cR,cb,count_nil,bq,a8,cm,et,dZ,dM,ak.num,Im,Iu]
   omega
 | .call g n aJ rest,d,t,V,T,hV,ht,h=>by
  have W:=gC t;have F:(∃ps,(n,ps)∈G.funcs/\h9 G V ps aJ)/\eJ G d V T rest:=by cases d<;>exact h
  obtain⟨⟨ps,aA,has⟩,aY⟩:=F;have aa:=cH bS rest d t _ _ hV ht aY;have bj:=pV hV bS ps aJ has (bS.funcs _ aA).2;have hn:=ef (bS.funcs _ aA).1;cases g<;>
  .simp only[aS,II,if_false,if_true,count_append,dF,cx,cR,cb,count_nil,bq,a8,cm,gp,et,dZ,dM,ak.num,Im,Iu];simp only[] at hn
   omega
 | .lock u r rest,d,t,V,T,hV,ht,h=>by
  have W:=gC t;have F:rU G V r/\eJ G d V T rest:=by cases d<;>exact h
  have aa:=cH bS rest d t _ _ hV ht F.2;have cy:=lX hV bS r F.1;cases u<;>
  .simp only[aS,II,if_false,if_true,count_append,dF,cx,cb,bq,a8,gp,et,dM,ak.num,Im,Iu]
   omega
 | .ite e th el rest,0,t,V,T,hV,ht,h=>h.elim
 | .fY e th rest,0,t,V,T,hV,ht,h=>h.elim
 | .ite e th el rest,d+1,t,V,T,hV,ht,h=>by
  have W:=gC t;have j:=cH bS th d (t+1) _ _ hV ad h.2.1;have o:=cH bS el d (t+1) _ _ hV ad h.2.2.1;have aa:=cH bS rest (d+1) t _ _ hV ht h.2.2.2;have aw:=cX hV 2 e h.1;simp only[cE,bE] at aw;cases hn:el.isNil<;>
  .simp only[aS,hn,II,if_false,if_true,Ip,IC,count_append,dF,cx,cb,count_nil,bq,a8,cm,gp,et,dM,ak.num,Im,Iu]
   omega
 | .fY e th rest,d+1,t,V,T,hV,ht,h=>by
  have W:=gC t;have j:=cH bS th d (t+1) _ _ hV ad h.2.1;have aa:=cH bS rest (d+1) t _ _ hV ht h.2.2;have aw:=cX hV 2 e h.1;simp only[cE,bE] at aw;simp only[aS,count_append,dF,cx,cb,bq,a8,gp,et,dM,ak.num,Im,Iu]
  omega
 | .ret rest,d,t,V,T,hV,ht,h=>by
  have W:=gC t;have F:eJ G d V T rest:=by cases d<;>exact h
  have aa:=cH bS rest d t _ _ hV ht F;simp only[aS,count_append,dF,cx,cb,bq,a8,gp,et,dM,ak.num,Im,Iu];omega
def g3(n:Int):List Atom:=if n<0 then [.sg [45],.num (iN n.natAbs)] else [.num (iN n.toNat)]
def g0(g:ByteArray×Int):List Atom:=kw [118,97,114]::.ws 32::.word g.1.data.toList::((if g.2=0 then [] else .ws 32::.sg [61]::.ws 32::g3 g.2)++[.sg [59],.ws 10])
def g1(m:bJ):List Atom:=kw (if m.re then [114,109,117,116,101,120] else fx)::.ws 32::.word m.name.data.toList::((if 0<m.size then .sg [91]::(g3 m.size++[.sg [93]]) else [])++[.sg [59],.ws 10])
def gk(p:ByteArray×Bool):List Atom:=if p.2 then [kw fx,.ws 32,.word p.1.data.toList] else [.word p.1.data.toList]
def gZ(f:aE):List Atom:=kw [102,117,110,99]::.ws 32::.word f.name.data.toList::.sg [40]::(dL (f.params.map gk)++(.sg [41]::.ws 32::.sg [123]::.ws 10::(aS 1 f.body++[.sg [125],.ws 10])))
def ff(p:bC):List Atom:=p.globals.flatMap g0++(p.af.flatMap g1++p.funcs.flatMap gZ)
def fo(p:bC):List ByteArray:=p.globals.map (·.1)
def a4(p:bC):List ByteArray:=fo p++p.af.map (·.name)++p.funcs.map (·.name)
def sigs(p:bC):List (ByteArray×List (ByteArray×Bool)):=p.funcs.map λf=>(f.name,f.params)
def ik(p:bC)(f:aE):Env:=⟨p.af,f.params,sigs p⟩
def ck(ps:List (ByteArray×Bool)):List ByteArray:=(ps.filter λq=>!q.2).map (·.1)
structure Ho(p:bC)(f:aE):Prop where
 params:∀q∈f.params,br q.1.data.toList=true
 hW:f.params.length<=2
 fresh:(a4 p++f.params.map (·.1)).Nodup
 body:eJ (ik p f) 4 (fo p++ck f.params) (a4 p++f.params.map (·.1)) f.body
structure pH(p:bC):Prop where
 names:∀s∈a4 p,br s.data.toList=true
 nodup:(a4 p).Nodup
 pe:p.globals.length<=16
 xm:p.af.length<=12
 C5:p.funcs.length<=16
 inits:∀g∈p.globals,-9223372036854775807<=g.2/\g.2<=9223372036854775807
 gh:∀m∈p.af,0<=m.size/\m.size<=64/\(m.re=true->m.size=0)
 funcs:∀f∈p.funcs,Ho p f
 main:∃(i:Nat) (f:aE),p.funcs[i]?=some f/\f.name=⟨#[109,97,105,110]⟩/\f.params=[]
 hW:(p.funcs.map λf=>f.body.num).sum<=64
theorem pH.env(h:pH p){f:aE}(aA:f∈p.funcs):nc (ik p f) where
 af:=λm hm=>h.names _ (by simp only[a4,Ii,Iz];exact .inl (.inr ⟨m,hm,rfl⟩))
 params:=(h.funcs f aA).params
 funcs:=λg aM=>by
  obtain⟨k,ap,rfl⟩:=Iz.1 aM;exact⟨h.names _ (by simp only[a4,Ii,Iz];exact .inr ⟨k,ap,rfl⟩),(h.funcs k ap).hW⟩
theorem pH.vars(h:pH p){f:aE}(aA:f∈p.funcs):dr (fo p++ck f.params):=by
 intro s hs;rcases Ii.1 hs with hs|hs
 .exact h.names _ (by simp only[a4,Ii];exact .inl (.inl hs))
 .obtain⟨q,bp,rfl⟩:=Iz.1 hs;exact(h.funcs f aA).params q (List.mem_filter.1 bp).1
theorem jx{α:Type}(f:α->List Atom):∀(l:List α),(∀x∈l,g4 (f x))->g4 (l.flatMap f)
 | [],_=>⟨trivial,λa h=>by simp at h⟩
 | x::l,h=>by
  have aa:=jx f l λy a4=>h y (by simp[a4]);have hx:=h x (by simp);refine⟨hx.app aa.1,λa I=>?_⟩;rw[Iv,List.getLast?_append] at I
  cases hl:(l.flatMap f).getLast? with
  | none=>rw[hl] at I;exact hx.2 a (by simpa using I)
  | some b=>
   rw[hl] at I;simp at I;subst I;exact aa.2 b hl
theorem jy{α:Type}(f:α->List Atom)(g:α->Nat)(c k:Nat):∀(l:List α),(∀x∈l,Atom.count (f x)<=c+53*g x/\fp (f x)<=k+400*g x)->
  Atom.count (l.flatMap f)<=c*l.length+53*(l.map g).sum/\fp (l.flatMap f)<=k*l.length+400*(l.map g).sum
 | [],_=>⟨by simp[count_nil],by simp[cm]⟩
 | x::l,h=>by
  have aa:=jy f g c k l λy a4=>h y (by simp[a4]);have hx:=h x (by simp);simp only[Iv,count_append,bq,Im,Ie,List.sum_cons,Nat.mul_add,Nat.mul_one];omega
theorem Fk{α:Type}(l:List α):(l.map λ_=>0).sum=0:=by induction l<;>simp_all
theorem oB(n:Int)(h:-9223372036854775807<=n/\n<=9223372036854775807):kW (g3 n)/\Atom.count (g3 n)<=2/\fp (g3 n)<=20:=by
 unfold g3;split
 .have aM:=pg (n:=n.natAbs) ad;have hl:=iO 18 n.natAbs ad;refine⟨Ci (.inl rfl) ⟨aM,⟨_,rfl,.inl ⟨rfl,aM⟩⟩,⟨_,rfl,.inl rfl⟩⟩,?_,?_⟩
  .simp only[cb,mN,count_nil];omega
  .simp only[a8,cm,dM,rl,Im,Iu];omega
 .have aM:=pg (n:=n.toNat) ad;have hl:=iO 18 n.toNat ad;refine⟨⟨aM,⟨_,rfl,.inl ⟨rfl,aM⟩⟩,⟨_,rfl,.inl rfl⟩⟩,?_,?_⟩
  .simp only[mN,count_nil];omega
  .simp only[a8,cm,rl];omega
theorem Dl:Atom.chain [.sg [59],.ws 10]:=bT (b0 (.inl (by decide))) rfl rfl
theorem p7(g:ByteArray×Int)(hn:br g.1.data.toList=true)(h:-9223372036854775807<=g.2/\g.2<=9223372036854775807):g4 (g0 g)/\Atom.count (g0 g)<=6/\fp (g0 g)<=50:=by
 have hl:=ef hn;obtain⟨bi,hc,O⟩:=oB g.2 h;have ap:(kw [118,97,114]).fK:=fa (by decide);refine⟨⟨?_,λa I=>?_⟩,?_⟩
 .unfold g0;refine bT ap rfl (cM rfl ?_);split
  .exact hM (dk hn) rfl Dl
  .exact bT (dk hn) rfl (cM rfl (bT (b0 (.inl (by decide))) rfl (cM rfl (eM bi (.inr (.inr (.inl rfl))) Dl))))
 .unfold g0 at I;exact x9
 .unfold g0;have aR:([118,97,114]:List UInt8).length=3:=rfl;split
  .simp only[IC,dF,cx,cR,cb,count_nil,a8,cm,gp,et,dZ,dM,Im,Iu];omega
  .simp only[Ip,dF,cx,cR,cb,count_append,count_nil,a8,bq,cm,gp,et,dZ,dM,Im,Iu];omega
theorem p8(m:bJ)(hn:br m.name.data.toList=true)(h:0<=m.size/\m.size<=64):g4 (g1 m)/\Atom.count (g1 m)<=7/\fp (g1 m)<=50:=by
 have hl:=ef hn;obtain⟨bi,hc,O⟩:=oB m.size ad;have ap:(kw (if m.re then [114,109,117,116,101,120] else fx)).fK:=fa (by split<;>decide);have bb:(if m.re then [114,109,117,116,101,120] else fx:List UInt8).length<=6:=by split<;>decide
 refine⟨⟨?_,λa I=>?_⟩,?_⟩
 .unfold g1;refine bT ap rfl (cM rfl ?_);split
  .simp only[Ip,Io];refine hM (dk hn) rfl (nX (.inr rfl) bi (eM bi (.inr (.inl rfl)) (cA (b0 (.inl (by decide))) Dl λb O=>?_)));simp at O;subst O;exact nZ _ (.inr (.inr rfl)) _ (.inr (.inr (.inl rfl)))
  .exact hM (dk hn) rfl Dl
 .unfold g1 at I;exact x9
 .unfold g1;generalize (if m.re then [114,109,117,116,101,120] else fx:List UInt8)=s at *;split
  .simp only[Ip,dF,cx,cR,cb,count_append,count_nil,a8,bq,cm,gp,et,dZ,dM,Im,Iu];omega
  .simp only[IC,dF,cx,cR,cb,count_nil,a8,cm,gp,et,dZ,dM,Im,Iu];omega
theorem mL(p:ByteArray×Bool)(hn:br p.1.data.toList=true):kW (gk p)/\Atom.count (gk p)<=2/\fp (gk p)<=22:=by
 have hl:=ef hn;have hw:=dk hn;have ap:(kw fx).fK:=fa (by decide);have ct:fx.length=5:=rfl;unfold gk;split
 .refine⟨⟨bT ap rfl (cM rfl hw),⟨_,rfl,.inl ⟨rfl,ap⟩⟩,⟨_,rfl,.inl rfl⟩⟩,?_⟩;simp only[dF,cx,cR,count_nil,a8,cm,gp,et,dZ];omega
 .refine⟨⟨hw,⟨_,rfl,.inl ⟨rfl,hw⟩⟩,⟨_,rfl,.inl rfl⟩⟩,?_⟩;exact yn
theorem nA:∀(l:List (ByteArray×Bool)),(∀q∈l,br q.1.data.toList=true)->Atom.count (dL (l.map gk))<=3*l.length/\fp (dL (l.map gk))<=24*l.length
 | [],_=>⟨Hx _,Hx _⟩
 | [p],h=>by
  have:=(mL p (h p (by simp))).2;simp only[Ie,Iy,dL,Im,Iu]
  omega
 | p::q::l,h=>by
  have ac:=(mL p (h p (by simp))).2;have aa:=nA (q::l) λx hx=>h x (by simp[hx]);simp only[Ie] at aa;simp only[Ie,dL,count_append,cb,cx,bq,a8,dM,et,Im,Iu] at aa ⊢;omega
theorem p6(hp:pH p){f:aE}(aA:f∈p.funcs):g4 (gZ f)/\Atom.count (gZ f)<=13+53*f.body.num/\fp (gZ f)<=80+400*f.body.num:=by
 have hF:=hp.funcs f aA;have hn:br f.name.data.toList=true:=hp.names _ (by simp only[a4,Ii,Iz];exact .inr ⟨f,aA,rfl⟩);have hl:=ef hn;have hc:=cG (hp.env aA) f.body 4 1 _ _ (hp.vars aA) hF.body;have ap:=cH (hp.env aA) f.body 4 1 _ _ (hp.vars aA) ad hF.body;have bp:=nA f.params hF.params;have F:=hF.hW;have k:(Atom.sg [123]).fK:=b0 (.inl (by decide));have i:Atom.chain [.sg [125],.ws 10]:=bT (b0 (.inl (by decide))) rfl rfl;have e1:g4 (aS 1 f.body):=⟨hc,dy f.body 1⟩
 have tail:Atom.chain (.sg [41]::.ws 32::.sg [123]::.ws 10::(aS 1 f.body++[.sg [125],.ws 10])):=
  bT (b0 (.inl (by decide))) rfl (cM rfl (bT k rfl (cM rfl (e1.app i))))
 refine⟨⟨?_,λa I=>?_⟩,?_⟩
 .unfold gZ;refine bT (fa (by decide)) rfl (cM rfl (hM (dk hn) rfl ?_))
  cases cq:f.params with
  | nil=>
   refine cA (b0 (.inl (by decide))) tail λb O=>?_
   exact D1
  | cons q l=>
   have hs:kW (dL ((q::l).map gk)):=mT _ (λa I=>by
    obtain⟨x,hx,rfl⟩:=Iz.1 I;exact(mL x (hF.params x (by rw[cq];exact hx))).1) (by simp)
   exact nX (.inl rfl) hs (eM hs (.inl rfl) tail)
 .unfold gZ at I;exact(kX.cons (.cons (.cons (.cons (.app (.cons (.cons (.cons (.cons (.app (.cons (.nl (l:=[]) λa h=>by simp at h)))))))))))).2 a I
 .have bv:([102,117,110,99]:List UInt8).length=4:=rfl;simp only[gZ,dF,cx,cR,cb,count_append,count_nil,a8,bq,cm,gp,et,dZ,dM,Im,Iu];omega
theorem sN(hp:pH p):(fq (aR (ff p))).2.2=0:=by
 have aM:∀g∈p.globals,br g.1.data.toList=true:=λg h=>hp.names _ (by simp only[a4,fo,Ii,Iz];exact .inl (.inl ⟨g,h,rfl⟩));have hm:∀m∈p.af,br m.name.data.toList=true:=λm h=>hp.names _ (by simp only[a4,Ii,Iz];exact .inl (.inr ⟨m,h,rfl⟩));have c1:=jx g0 p.globals λg h=>(p7 g (aM g h) (hp.inits g h)).1;have c2:=jx g1 p.af λm h=>(p8 m (hm m h) ⟨(hp.gh m h).1,(hp.gh m h).2.1⟩).1;have c3:=jx gZ p.funcs λf h=>(p6 hp h).1;have cm:=jy g0 (λ_=>0) 6 50 p.globals λg h=>by have:=(p7 g (aM g h) (hp.inits g h)).2;omega
 have bZ:=jy g1 (λ_=>0) 7 50 p.af λm h=>by have:=(p8 m (hm m h) ⟨(hp.gh m h).1,(hp.gh m h).2.1⟩).2;omega
 have cC:=jy gZ (λf=>f.body.num) 13 80 p.funcs λf h=>(p6 hp h).2;rw[Fk] at cm bZ;have n1:=hp.pe;have cd:=hp.xm;have bY:=hp.C5;have a:=hp.hW;have hlen:(aR (ff p)).length<=262144:=by
  have:fp (ff p)=fp (p.globals.flatMap g0)+(fp (p.af.flatMap g1)+fp (p.funcs.flatMap gZ)):=by unfold ff;rw[bq,bq]
  unfold fp at this cm bZ cC;omega
 unfold fq;rw[if_neg ad];refine ur (ff p) _ _ [] ?_ (Nat.lt_succ_self _) ?_
 .exact c1.app (c2.app c3.1)
 .unfold ff;rw[count_append,count_append];simp only[Iu];omega
end Go.Proofs.YtajlmkkidmjgoaaGreatDoor
