/- Part 3 of the proof. No condition of its own. -/
import Derived.Test.YtpkfopfkdgkfkaaGreatQ02
namespace Go.Proofs.YtpkfopfkdgkfkaaGreat
open Go.RowKit Go.Proofs.Tryz
set_option maxRecDepth 1000000
set_option maxHeartbeats 25600000
set_option linter.unusedVariables false
variable{a:Atom}{l m:List Atom}{s:List UInt8}{c:UInt8}{p:bQ}
def bf:VE->Int
 | .num _=>1
 | .hg _=>2
 | .loc _=>18
 | .iI _=>19
 | .un op _=>op
 | .bin op _ _=>op
def c6(op:Int):Int:=if op=17 then 0 else if op=16 then 1 else if 10<=op/\op<=15 then 2 else if op=8\/op=9 then 3 else if 5<=op/\op<=7 then 4 else if op=3\/op=4 then 5 else 6
def dK(op arg:Int)(second:Bool):Bool:=decide (c6 arg<c6 op) || (c6 arg == c6 op && second)
def g5(op:Int):List UInt8:=
 if op=5 then [42] else if op=6 then [47] else if op=7 then [37] else if op=8 then [43] else if op=9 then [45] else if op=10 then [60] else if op=11 then [60,61]
 else if op=12 then [62] else if op=13 then [62,61] else if op=14 then [61,61] else if op=15 then [33,61] else if op=16 then [38,38] else [124,124]
def par(b:Bool)(aW:List Atom):List Atom:=if b then .sg [40]::(aW++[.sg [41]]) else aW
def ct:VE->List Atom
 | .num n=>[.num (jz n.toNat)]
 | .hg s=>[.word s.data.toList]
 | .loc _=>[]
 | .iI _=>[]
 | .un op x=>.sg (if op=3 then [45] else [33])::par (dK op (bf x) false) (ct x)
 | .bin op x y=>par (dK op (bf x) false) (ct x)++(.ws 32::.sg (g5 op)::.ws 32::par (dK op (bf y) true) (ct y))
def VE.src(N:Mu):Nat->VE->Prop
 | _,.num n=>0<=n/\n<4611686018427387904
 | _,.hg s=>s∈N
 | _,.loc _=>False
 | _,.iI _=>False
 | 0,.un _ _=>False
 | 0,.bin _ _ _=>False
 | d+1,.un op x=>(op=3\/op=4)/\VE.src N d x
 | d+1,.bin op x y=>(5<=op/\op<=17)/\VE.src N d x/\VE.src N d y
def dO(N:Mu):Prop:=∀s∈N,bD s.data.toList=true
structure lB(aW:List Atom):Prop where
 chain:Atom.chain aW
 first:∃a,aW.head?=some a/\tr a
 last:∃a,aW.getLast?=some a/\HL a
theorem getLast_append{aW f:List Atom}(h:f.getLast?=some a):(aW++f).getLast?=some a:=by
 rw[List.getLast?_append,h];rfl
theorem head_append{aW f:List Atom}(h:aW.head?=some a):(aW++f).head?=some a:=by
 rw[List.head?_append,h];rfl
theorem cU{aW:List Atom}(aZ:a.gk)(h:Atom.chain aW)(J:∀b,aW.head?=some b->a.fits b):Atom.chain (a::aW):=
 eF [a] aW aZ h λx b hx O=>by
  simp at hx;subst hx;exact J b O
theorem cq(h:s∈eX\/s∈fE):(Atom.sg s).gk:=h.symm
theorem lB.par{aW:List Atom}(h:lB aW)(b:Bool):lB (par b aW):=by
 cases b
 .exact h
 .obtain⟨a,aZ,hs⟩:=h.first;obtain⟨z,aL,he⟩:=h.last;refine⟨?_,⟨_,rfl,.inr (.inr (.inr rfl))⟩,⟨.sg [41],?_,.inr (.inl rfl)⟩⟩
  .refine cU (cq (.inl (by decide))) (eF _ _ h.chain (cq (.inl (by decide))) λx y hx bb=>?_) λy bb=>?_
   .rw[aL] at hx;injection hx with hx;subst hx;simp at bb;subst bb;exact oS _ he _ (.inl rfl)
   .rw[head_append aZ] at bb;injection bb with bb;subst bb;exact nK _ (.inr (.inr (.inl rfl))) _ hs
  .show (Atom.sg [40]::(aW++[Atom.sg [41]])).getLast?=some (.sg [41])
   rw[<-List.cons_append];exact getLast_append rfl
theorem xa(op:Int):g5 op∈eX\/g5 op∈fE:=by
 unfold g5
 repeat' split
 all_goals first|exact .inl (by decide)|exact .inr (by decide)
theorem dM(h:bD s=true):(Atom.word s).gk:=by
 cases s with
 | nil=>simp[bD] at h
 | cons c l=>
  simp only[bD,LY,Ml] at h;exact⟨⟨c,l,rfl,h.1.1.1,h.1.1.2⟩,.inr h.1.2⟩
theorem ql{n:Nat}(h:n<=9223372036854775807):(Atom.num (jz n)).gk:=by
 obtain⟨ac,ap⟩:=tR n;exact⟨ap,ac,by rw[y4 n h];omega⟩
theorem FC{aW:List Atom}(hs:s=[45]\/s=[33])(h:lB aW):lB (.sg s::aW):=by
 obtain⟨a,aZ,cz⟩:=h.first;obtain⟨z,aL,he⟩:=h.last;refine⟨cU (cq (.inl (by rcases hs with rfl|rfl<;>decide))) h.chain λb O=>?_,⟨_,rfl,by rcases hs with rfl|rfl<;>simp[tr]⟩,⟨z,?_,he⟩⟩
 .rw[aZ] at O;injection O with O;subst O;exact nK _ (by rcases hs with rfl|rfl<;>simp) _ cz
 .show ([Atom.sg s]++aW).getLast?=some z
  exact getLast_append aL
theorem eE{N:Mu}(hN:dO N):∀(d:Nat) (x:VE),x.src N d->lB (ct x)
 | d,.num n,h=>by
  have E:0<=n/\n<4611686018427387904:=by cases d<;>exact h
  have aR:=ql (n:=n.toNat) ad
  exact⟨aR,⟨_,rfl,.inl ⟨rfl,aR⟩⟩,⟨_,rfl,.inl rfl⟩⟩
 | d,.hg s,h=>by
  have E:s∈N:=by cases d<;>exact h
  have aR:=dM (hN s E)
  exact⟨aR,⟨_,rfl,.inl ⟨rfl,aR⟩⟩,⟨_,rfl,.inl rfl⟩⟩
 | d,.loc _,h=>by cases d<;>exact h.elim
 | d,.iI _,h=>by cases d<;>exact h.elim
 | 0,.un _ _,h=>h.elim
 | 0,.bin _ _ _,h=>h.elim
 | d+1,.un op x,h=>by
  unfold ct
  exact FC (by split<;>simp) ((eE hN d x h.2).par (dK op (bf x) false))
 | d+1,.bin op x y,h=>by
  have i:=(eE hN d x h.2.1).par (dK op (bf x) false);have c:=(eE hN d y h.2.2).par (dK op (bf y) true);unfold ct;generalize par (dK op (bf x) false) (ct x)=aW at *;generalize par (dK op (bf y) true) (ct y)=f at *;obtain⟨a,aZ,cz⟩:=i.first;obtain⟨z,aL,he⟩:=c.last;refine⟨eF _ _ i.chain ?_ ?_,⟨a,head_append aZ,cz⟩,⟨z,getLast_append ?_,he⟩⟩
  .refine cU rfl (cU (cq (xa op)) (cU rfl c.chain λb _=>pk _ b) λb O=>?_) λb _=>pk _ b;simp at O;subst O;exact oU _ _ rfl
  .intro x y _ bb;simp at bb;subst bb;exact oU _ _ rfl
  .show ([Atom.ws 32,Atom.sg (g5 op),Atom.ws 32]++f).getLast?=some z
   exact getLast_append aL
structure Env where
 af:List bM
 params:List (ByteArray×Bool)
 funcs:List (ByteArray×List (ByteArray×Bool))
def sc(G:Env)(V:Mu)(r:e4):Prop:=
 (∃m∈G.af,m.name=r.name/\(0<m.size->∃e,r.idx=some e/\e.src V 2)/\(¬0<m.size->r.idx=none))\/((r.name,true)∈G.params/\r.idx=none)
def J0(G:Env)(V:Mu)(p:ByteArray×Bool):dt->Prop
 | .mx r=>p.2=true/\sc G V r
 | .ex e=>p.2=false/\e.src V 2
def iU(G:Env)(V:Mu):List (ByteArray×Bool)->List dt->Prop
 | [],[]=>True
 | p::ps,a::aW=>J0 G V p a/\iU G V ps aW
 | _,_=>False
def fm(G:Env):(d:Nat)->(V T:Mu)->ao->Prop
 | _,_,_,.nil=>True
 | d,V,T,.set true n e rest=>bD n.data.toList=true/\n∉T/\e.src V 2/\fm G d (V++[n]) (T++[n]) rest
 | d,V,T,.set false n e rest=>n∈V/\e.src V 2/\fm G d V T rest
 | d,V,T,.call _ n aW rest=>(∃ps,(n,ps)∈G.funcs/\iU G V ps aW)/\fm G d V T rest
 | d,V,T,.lock _ r rest=>sc G V r/\fm G d V T rest
 | 0,_,_,.ite ..=>False
 | 0,_,_,.gI ..=>False
 | d+1,V,T,.ite e th el rest=>e.src V 2/\fm G d V T th/\fm G d V T el/\fm G (d+1) V T rest
 | d+1,V,T,.gI e th rest=>e.src V 2/\fm G d V T th/\fm G (d+1) V T rest
 | d,V,T,.ret rest=>fm G d V T rest
def ao.isNil:ao->Bool
 | .nil=>true
 | _=>false
def ao.num:ao->Nat
 | .nil=>0
 | .set _ _ _ rest=>rest.num+1
 | .call _ _ _ rest=>rest.num+1
 | .lock _ _ rest=>rest.num+1
 | .ite _ th el rest=>th.num+el.num+rest.num+1
 | .gI _ th rest=>th.num+rest.num+1
 | .ret rest=>rest.num+1
def kw(s:List UInt8):Atom:=.word s
def iB(r:e4):List Atom:=.word r.name.data.toList::(match r.idx with|none=>[]|some e=>.sg [91]::(ct e++[.sg [93]]))
def ga:List UInt8:=[109,117,116,101,120]
def fR:dt->List Atom
 | .mx r=>kw ga::.ws 32::iB r
 | .ex e=>ct e
def ep:List (List Atom)->List Atom
 | []=>[]
 | [a]=>a
 | a::b::l=>a++(.sg [44]::.ws 32::ep (b::l))
def iZ(aW:List dt):List Atom:=.sg [40]::(ep (aW.map fR)++[.sg [41]])
def fM(n:Nat):List Atom:=List.replicate n (.ws 9)
def aX:Nat->ao->List Atom
 | _,.nil=>[]
 | t,.set v n e rest=>fM t++((if v then [kw [118,97,114],.ws 32] else [])++(.word n.data.toList::.ws 32::.sg [61]::.ws 32::(ct e++(.sg [59]::.ws 10::aX t rest))))
 | t,.call g n aW rest=>fM t++((if g then [kw [103,111],.ws 32] else [])++(.word n.data.toList::(iZ aW++(.sg [59]::.ws 10::aX t rest))))
 | t,.lock u r rest=>fM t++(kw (if u then [117,110,108,111,99,107] else [108,111,99,107])::.ws 32::(iB r++(.sg [59]::.ws 10::aX t rest)))
 | t,.ite e th el rest=>fM t++(kw [105,102]::.ws 32::(ct e++(.ws 32::.sg [123]::.ws 10::(aX (t+1) th++(fM t++(.sg [125] ::
   ((if el.isNil then [] else .ws 32::kw [101,108,115,101]::.ws 32::.sg [123]::.ws 10::(aX (t+1) el++(fM t++[.sg [125]])))++(.ws 10::aX t rest))))))))
 | t,.gI e th rest=>fM t++(kw [119,104,105,108,101]::.ws 32::(ct e++(.ws 32::.sg [123]::.ws 10::(aX (t+1) th++(fM t++(.sg [125]::.ws 10::aX t rest))))))
 | t,.ret rest=>fM t++(kw [114,101,116,117,114,110]::.sg [59]::.ws 10::aX t rest)
theorem fP(h:s∈tB):(kw s).gk:=by
 have key:∀s∈tB,(match s with|[]=>false|c::l=>bZ c && l.all ck)=true:=by decide
 have:=key s h
 cases s with
 | nil=>cases this
 | cons c l=>
  simp only[LY] at this;exact⟨⟨c,l,rfl,this.1,this.2⟩,.inl (by simpa[dA] using h)⟩
section
variable {aW f:List Atom}
theorem dd(hc:pj c=true)(h:Atom.chain aW):Atom.chain (.ws c::aW):=cU hc h λb _=>pk c b
theorem cd(aZ:a.gk)(hc:pj c=true)(h:Atom.chain (.ws c::aW)):Atom.chain (a::.ws c::aW):=
 cU aZ h λb O=>by
  simp at O;subst O;exact oU _ _ hc
theorem iC(aZ:a.gk)(hl:a.kB=true)(h:Atom.chain (.sg s::aW)):Atom.chain (a::.sg s::aW):=
 cU aZ h λb O=>by
  simp at O;subst O;exact xS _ _ hl rfl
theorem fp(ac:lB aW)(hs:s=[41]\/s=[93]\/s=[59]\/s=[44])(h:Atom.chain (.sg s::f)):Atom.chain (aW++.sg s::f):=
 eF _ _ ac.chain h λa b aZ O=>by
  obtain⟨z,aL,he⟩:=ac.last;rw[aL] at aZ;injection aZ with aZ;subst aZ;simp at O;subst O;exact oS _ he _ hs
theorem ry(ac:Atom.chain aW)(hc:pj c=true)(h:Atom.chain (.ws c::f)):Atom.chain (aW++.ws c::f):=
 eF _ _ ac h λa b _ O=>by
  simp at O;subst O;exact oU _ _ hc
theorem oQ(hs:s=[40]\/s=[91])(ac:lB aW)(h:Atom.chain (aW++f)):Atom.chain (.sg s::(aW++f)):=
 cU (cq (.inl (by rcases hs with rfl|rfl<;>decide))) h λb O=>by
  obtain⟨a,aZ,cz⟩:=ac.first;rw[head_append aZ] at O;injection O with O;subst O;exact nK _ (by rcases hs with rfl|rfl<;>simp) _ cz
def h1(aW:List Atom):Prop:=Atom.chain aW/\∀a,aW.getLast?=some a->∃c,a=.ws c
theorem h1.app(h:h1 aW)(O:Atom.chain f):Atom.chain (aW++f):=
 eF _ _ h.1 O λa b aZ _=>by
  obtain⟨c,rfl⟩:=h.2 a aZ;exact pk _ _
theorem gH(n:Nat):h1 (fM n):=by
 induction n with
 | zero=>exact⟨trivial,λa h=>by simp[fM] at h⟩
 | succ n Z=>
  refine⟨dd rfl Z.1,λa h=>?_⟩;simp only[fM,List.getLast?_replicate] at h;simp at h;exact⟨9,h.symm⟩
theorem uh(h:∀a,m.getLast?=some a->∃c,a=.ws c)(hm:m≠[])(aZ:(l++m).getLast?=some a):∃c,a=.ws c:=by
 rw[List.getLast?_append] at aZ
 cases hl:m.getLast? with
 | none=>exact absurd (List.getLast?_eq_none_iff.1 hl) hm
 | some b=>
  rw[hl] at aZ;simp at aZ;subst aZ;exact h _ hl
end
theorem pH{G:Env}{V:Mu}(hV:dO V)(hM:∀m∈G.af,bD m.name.data.toList=true)(bg:∀p∈G.params,bD p.1.data.toList=true)(r:e4)(h:sc G V r):lB (iB r):=by
 have hn:(Atom.word r.name.data.toList).gk:=by
  rcases h with⟨m,hm,he,_⟩|⟨hp,_⟩
  .rw[<-he];exact dM (hM m hm)
  .exact dM (bg _ hp)
 unfold iB
 cases aX:r.idx with
 | none=>exact⟨hn,⟨_,rfl,.inl ⟨rfl,hn⟩⟩,⟨_,rfl,.inl rfl⟩⟩
 | some e=>
  have hs:e.src V 2:=by
   exact HB
  have Z:=eE hV 2 e hs;refine⟨iC hn rfl (oQ (.inr rfl) Z (fp Z (.inr (.inl rfl)) (cq (.inl (by decide))))),⟨_,rfl,.inl ⟨rfl,hn⟩⟩,⟨.sg [93],?_,.inr (.inr rfl)⟩⟩;show ((Atom.word r.name.data.toList::.sg [91]::ct e)++[Atom.sg [93]]).getLast?=_
  exact getLast_append rfl
theorem nB:∀(l:List (List Atom)),(∀a∈l,lB a)->l≠[]->lB (ep l)
 | [],_,h=>absurd rfl h
 | [a],h,_=>h a (by simp)
 | a::b::l,h,_=>by
  have Z:=nB (b::l) (λx hx=>h x (by simp[hx])) (by simp);have aZ:=h a (by simp);obtain⟨x,hx,hs⟩:=aZ.first;obtain⟨z,aL,he⟩:=Z.last;refine⟨fp aZ (.inr (.inr (.inr rfl))) (cd (cq (.inl (by decide))) rfl (dd rfl Z.chain)),⟨x,head_append hx,hs⟩,⟨z,?_,he⟩⟩;show (a++([Atom.sg [44],Atom.ws 32]++ep (b::l))).getLast?=some z
  exact getLast_append (getLast_append aL)
section
variable {G:Env} {V:Mu} (hV:dO V) (hM:∀m∈G.af,bD m.name.data.toList=true) (bg:∀p∈G.params,bD p.1.data.toList=true)
include hV hM bg
theorem vV(p:ByteArray×Bool)(a:dt)(h:J0 G V p a):lB (fR a):=by
 cases a with
 | ex e=>exact eE hV 2 e h.2
 | mx r=>
  have Z:=pH hV hM bg r h.2;have aj:(kw ga).gk:=fP (by decide);obtain⟨z,aL,he⟩:=Z.last;refine⟨cd aj rfl (dd rfl Z.chain),⟨_,rfl,.inl ⟨rfl,aj⟩⟩,⟨z,?_,he⟩⟩;show ([kw ga,Atom.ws 32]++iB r).getLast?=some z
  exact getLast_append aL
theorem vh:∀(ps:List (ByteArray×Bool)) (aW:List dt),iU G V ps aW->(∀a∈aW.map fR,lB a)/\aW.length=ps.length
 | [],[],_=>⟨λa h=>by simp at h,rfl⟩
 | p::ps,a::aW,h=>by
  obtain⟨ac,ap⟩:=vh ps aW h.2;refine⟨λx hx=>?_,by simp[ap]⟩;simp only[LQ,L5] at hx;rcases hx with rfl|hx
  .exact vV hV hM bg p a h.1
  .exact ac x hx
 | [],_::_,h=>h.elim
 | _::_,[],h=>h.elim
theorem q2(ps:List (ByteArray×Bool))(aW:List dt)(h:iU G V ps aW){f:List Atom}(O:Atom.chain (.sg [59]::f)):Atom.chain (iZ aW++.sg [59]::f):=by
 have d:Atom.chain (.sg [41]::.sg [59]::f):=cU (cq (.inl (by decide))) O λb O=>by
  simp at O;subst O;exact oS _ (.inr (.inl rfl)) _ (.inr (.inr (.inl rfl)))
 obtain⟨ac,_⟩:=vh hV hM bg ps aW h
 cases aW with
 | nil=>
  refine cU (cq (.inl (by decide))) d λb O=>?_
  exact zG
 | cons a l=>
  have Z:=nB ((a::l).map fR) ac (by simp);show Atom.chain (Atom.sg [40]::((ep ((a::l).map fR)++[Atom.sg [41]])++Atom.sg [59]::f))
  rw[L3];exact oQ (.inl rfl) Z (fp Z (.inl rfl) d)
end
def lC(l:List Atom):Prop:=l≠[]/\∀a,l.getLast?=some a->∃c,a=.ws c
theorem lC.cons{x:Atom}(h:lC l):lC (x::l):=
 ⟨by simp,λa aZ=>uh (l:=[x]) h.2 h.1 (by simpa using aZ)⟩
theorem lC.app(h:lC m):lC (l++m):=
 ⟨by have:=h.1;simp[this],λa aZ=>uh h.2 h.1 aZ⟩
theorem lC.nl(h:∀a,l.getLast?=some a->∃c,a=.ws c):lC (.ws 10::l):=by
 refine⟨by simp,λa aZ=>?_⟩
 cases l with
 | nil=>simp at aZ;exact⟨10,aZ.symm⟩
 | cons x l=>exact h a (by rw[List.getLast?_cons_cons] at aZ;exact aZ)
theorem dS:∀(b:ao) (t:Nat) (a:Atom),(aX t b).getLast?=some a->∃c,a=.ws c
 | .nil,t,a,h=>by simp[aX] at h
 | .set v n e rest,t,a,h=>by
  unfold aX at h
  exact(lC.app (.app (.cons (.cons (.cons (.cons (.app (.cons (.nl (dS rest t)))))))))).2 a h
 | .call g n aW rest,t,a,h=>by
  unfold aX at h
  exact(lC.app (.app (.cons (.app (.cons (.nl (dS rest t))))))).2 a h
 | .lock u r rest,t,a,h=>by
  unfold aX at h
  exact(lC.app (.cons (.cons (.app (.cons (.nl (dS rest t))))))).2 a h
 | .ite e th el rest,t,a,h=>by
  unfold aX at h
  exact(lC.app (.cons (.cons (.app (.cons (.cons (.cons (.app (.app (.cons (.app (.nl (dS rest t))))))))))))).2 a h
 | .gI e th rest,t,a,h=>by
  unfold aX at h
  exact(lC.app (.cons (.cons (.app (.cons (.cons (.cons (.app (.app (.cons (.nl (dS rest t)))))))))))).2 a h
 | .ret rest,t,a,h=>by
  unfold aX at h;exact(lC.app (.cons (.cons (.nl (dS rest t))))).2 a h
structure nU(G:Env):Prop where
 af:∀m∈G.af,bD m.name.data.toList=true
 params:∀p∈G.params,bD p.1.data.toList=true
 funcs:∀f∈G.funcs,bD f.1.data.toList=true/\f.2.length<=2
theorem j7{V:Mu}{n:ByteArray}(h:dO V)(hn:bD n.data.toList=true):dO (V++[n]):=by
 intro s hs;simp only[LU,Mi] at hs;rcases hs with hs|rfl
 .exact h s hs
 .exact hn
theorem c8{G:Env}(hG:nU G):∀(b:ao) (d t:Nat) (V T:Mu),dO V->fm G d V T b->Atom.chain (aX t b)
 | .nil,d,t,V,T,_,_=>trivial
 | .set v n e rest,d,t,V,T,hV,h=>by
  have a:(Atom.sg [59]).gk:=cq (.inl (by decide));have f:(Atom.sg [61]).gk:=cq (.inl (by decide));unfold aX
  cases v with
  | true=>
   have E:bD n.data.toList=true/\n∉T/\e.src V 2/\fm G d (V++[n]) (T++[n]) rest:=by cases d<;>exact h
   have Z:=c8 hG rest d t _ _ (j7 hV E.1) E.2.2.2;have aw:=eE hV 2 e E.2.2.1
   exact(gH t).app (cd (fP (by decide)) rfl (dd rfl (cd (dM E.1) rfl (dd rfl (cd f rfl (dd rfl (fp aw (.inr (.inr (.inl rfl))) (cd a rfl (dd rfl Z)))))))))
  | false=>
   have E:n∈V/\e.src V 2/\fm G d V T rest:=by cases d<;>exact h
   have Z:=c8 hG rest d t _ _ hV E.2.2;have aw:=eE hV 2 e E.2.1
   exact(gH t).app (cd (dM (hV n E.1)) rfl (dd rfl (cd f rfl (dd rfl (fp aw (.inr (.inr (.inl rfl))) (cd a rfl (dd rfl Z)))))))
 | .call g n aW rest,d,t,V,T,hV,h=>by
  have E:(∃ps,(n,ps)∈G.funcs/\iU G V ps aW)/\fm G d V T rest:=by cases d<;>exact h
  obtain⟨⟨ps,J,has⟩,a5⟩:=E;have Z:=c8 hG rest d t _ _ hV a5;have a:(Atom.sg [59]).gk:=cq (.inl (by decide));have bG:=q2 hV hG.af hG.params ps aW has (cd a rfl (dd (c:=10) rfl Z));have ba:Atom.chain (.word n.data.toList::(iZ aW++(.sg [59]::.ws 10::aX t rest))):=iC (dM (hG.funcs _ J).1) rfl bG;unfold aX
  cases g with
  | true=>exact(gH t).app (cd (fP (by decide)) rfl (dd rfl ba))
  | false=>exact(gH t).app ba
 | .lock u r rest,d,t,V,T,hV,h=>by
  have E:sc G V r/\fm G d V T rest:=by cases d<;>exact h
  have Z:=c8 hG rest d t _ _ hV E.2;have cv:=pH hV hG.af hG.params r E.1;have a:(Atom.sg [59]).gk:=cq (.inl (by decide));unfold aX
  exact(gH t).app (cd (fP (by cases u<;>decide)) rfl (dd rfl (fp cv (.inr (.inr (.inl rfl))) (cd a rfl (dd rfl Z)))))
 | .ite e th el rest,0,t,V,T,hV,h=>h.elim
 | .gI e th rest,0,t,V,T,hV,h=>h.elim
 | .ite e th el rest,d+1,t,V,T,hV,h=>by
  have j:=c8 hG th d (t+1) _ _ hV h.2.1;have o:=c8 hG el d (t+1) _ _ hV h.2.2.1;have Z:=c8 hG rest (d+1) t _ _ hV h.2.2.2;have aw:=eE hV 2 e h.1;have k:(Atom.sg [123]).gk:=cq (.inl (by decide));have i:(Atom.sg [125]).gk:=cq (.inl (by decide));have e1:h1 (aX (t+1) th):=⟨j,dS th _⟩
  have e2:h1 (aX (t+1) el):=⟨o,dS el _⟩
  have cg:Atom.chain (.ws 10::aX t rest):=dd rfl Z;have tail:Atom.chain (.sg [125]::((if el.isNil then [] else .ws 32::kw [101,108,115,101]::.ws 32::.sg [123]::.ws 10::(aX (t+1) el++(fM t++[.sg [125]])))++(.ws 10::aX t rest))):=by
   have bn:Atom.chain (.sg [125]::((.ws 32::kw [101,108,115,101]::.ws 32::.sg [123]::.ws 10::(aX (t+1) el++(fM t++[.sg [125]])))++(.ws 10::aX t rest))):=by
    refine cd i rfl (dd rfl (cd (fP (by decide)) rfl (dd rfl (cd k rfl (dd rfl ?_)))));show Atom.chain ((aX (t+1) el++(fM t++[Atom.sg [125]]))++(Atom.ws 10::aX t rest))
    rw[L3,L3];exact e2.app ((gH t).app (cd i rfl cg))
   split
   .exact cd i rfl cg
   .exact bn
  unfold aX
  exact(gH t).app (cd (fP (by decide)) rfl (dd rfl (ry aw.chain rfl (dd rfl (cd k rfl (dd rfl (e1.app ((gH t).app tail))))))))
 | .gI e th rest,d+1,t,V,T,hV,h=>by
  have j:=c8 hG th d (t+1) _ _ hV h.2.1;have Z:=c8 hG rest (d+1) t _ _ hV h.2.2;have aw:=eE hV 2 e h.1;have k:(Atom.sg [123]).gk:=cq (.inl (by decide));have i:(Atom.sg [125]).gk:=cq (.inl (by decide));have e1:h1 (aX (t+1) th):=⟨j,dS th _⟩
  unfold aX
  exact(gH t).app (cd (fP (by decide)) rfl (dd rfl (ry aw.chain rfl (dd rfl (cd k rfl (dd rfl (e1.app ((gH t).app (cd i rfl (dd rfl Z))))))))))
 | .ret rest,d,t,V,T,hV,h=>by
  have E:fm G d V T rest:=by cases d<;>exact h
  have Z:=c8 hG rest d t _ _ hV E;have a:(Atom.sg [59]).gk:=cq (.inl (by decide));unfold aX;exact(gH t).app (iC (fP (by decide)) rfl (cd a rfl (dd rfl Z)))
theorem jA:∀(k n:Nat),n<10 ^ (k+1)->(jz n).length<=k+1
 | k,n,h=>by
  rw[jz];split
  .simp
  .cases k with
   | zero=>simp at h;omega
   | succ k=>
    have:=jA k (n / 10) (by rw[Nat.div_lt_iff_lt_mul ad,<-Nat.pow_succ];exact h);simp;omega
 termination_by k=>k
theorem eM(h:bD s=true):s.length<=16:=by
 simp only[bD,LY,Ml] at h;exact h.1.2
def fX(aW:List Atom):Nat:=(aV aW).length
theorem bC(aW f:List Atom):fX (aW++f)=fX aW+fX f:=by unfold fX;rw[bh,LM]
theorem bq(a:Atom)(f:List Atom):fX (a::f)=a.bytes.length+fX f:=by unfold fX;rw[a5,LM]
theorem cH:fX []=0:=rfl
theorem cQ(c:UInt8)(aW:List Atom):Atom.count (.ws c::aW)=Atom.count aW:=rfl
theorem dg(c:List UInt8)(aW:List Atom):Atom.count (.word c::aW)=Atom.count aW+1:=rfl
theorem ns(c:List UInt8)(aW:List Atom):Atom.count (.num c::aW)=Atom.count aW+1:=rfl
theorem cy(c:List UInt8)(aW:List Atom):Atom.count (.sg c::aW)=Atom.count aW+1:=rfl
theorem eg(c:List UInt8)(aW:List Atom):Atom.count (kw c::aW)=Atom.count aW+1:=rfl
theorem count_nil:Atom.count []=0:=rfl
theorem eV(c:UInt8):(Atom.ws c).bytes.length=1:=rfl
theorem eL(c:List UInt8):(Atom.word c).bytes.length=c.length:=rfl
theorem gU(c:List UInt8):(kw c).bytes.length=c.length:=rfl
theorem s4(c:List UInt8):(Atom.num c).bytes.length=c.length:=rfl
theorem er(c:List UInt8):(Atom.sg c).bytes.length=c.length:=rfl
def cE:Nat->Nat
 | 0=>1
 | d+1=>2*(cE d+2)+1
def bE:Nat->Nat
 | 0=>19
 | d+1=>2*(bE d+2)+4
theorem Ed:∀d,1<=cE d
 | 0=>LK _
 | d+1=>by unfold cE;omega
theorem vZ:∀d,19<=bE d
 | 0=>LK _
 | d+1=>by have:=vZ d;unfold bE;omega
theorem nG(b:Bool)(aW:List Atom):Atom.count (par b aW)<=Atom.count aW+2/\fX (par b aW)<=fX aW+2:=by
 cases b
 .exact⟨by simp[par],by simp[par]⟩
 .simp only[par,if_true,cy,count_append,bq,bC,cH,er,count_nil,LZ,Ma];omega
theorem Fm(op:Int):(g5 op).length<=2:=by
 unfold g5
 repeat' split
 all_goals decide
theorem du{N:Mu}(hN:dO N):∀(d:Nat) (x:VE),x.src N d->Atom.count (ct x)<=cE d/\fX (ct x)<=bE d
 | d,.num n,h=>by
  have E:0<=n/\n<4611686018427387904:=by cases d<;>exact h
  have:=jA 18 n.toNat ad;have ac:=Ed d;have ap:=vZ d;simp only[ct,ns,count_nil,bq,cH,s4]
  omega
 | d,.hg s,h=>by
  have E:s∈N:=by cases d<;>exact h
  have:=eM (hN s E);have ac:=Ed d;have ap:=vZ d;simp only[ct,dg,count_nil,bq,cH,eL]
  omega
 | d,.loc _,h=>by cases d<;>exact h.elim
 | d,.iI _,h=>by cases d<;>exact h.elim
 | 0,.un _ _,h=>h.elim
 | 0,.bin _ _ _,h=>h.elim
 | d+1,.un op x,h=>by
  have Z:=du hN d x h.2;have hp:=nG (dK op (bf x) false) (ct x);have hs:(if op=3 then [45] else [33]:List UInt8).length=1:=by split<;>rfl
  simp only[ct,cy,bq,er,hs,cE,bE]
  omega
 | d+1,.bin op x y,h=>by
  have i:=du hN d x h.2.1;have c:=du hN d y h.2.2;have hp:=nG (dK op (bf x) false) (ct x);have bK:=nG (dK op (bf y) true) (ct y);have hs:=Fm op;simp only[ct,count_append,cQ,cy,bC,bq,eV,er,cE,bE];omega
section
variable {G:Env} {V:Mu} (hV:dO V) (hG:nU G)
include hV hG
theorem my(r:e4)(h:sc G V r):Atom.count (iB r)<=22/\fX (iB r)<=118:=by
 have hn:bD r.name.data.toList=true:=by
  rcases h with⟨m,hm,he,_⟩|⟨hp,_⟩
  .rw[<-he];exact hG.af m hm
  .exact hG.params _ hp
 have hl:=eM hn;unfold iB
 cases aX:r.idx with
 | none=>
  exact Al
 | some e=>
  have hs:e.src V 2:=by
   exact HB
  have Z:=du hV 2 e hs;simp only[cE,bE] at Z;simp only[dg,cy,count_append,count_nil,bq,bC,cH,eL,er,LZ,Ma];omega
theorem mw(p:ByteArray×Bool)(a:dt)(h:J0 G V p a):Atom.count (fR a)<=23/\fX (fR a)<=124:=by
 cases a with
 | ex e=>
  have Z:=du hV 2 e h.2;simp only[cE,bE] at Z;show Atom.count (ct e)<=23/\fX (ct e)<=124
  omega
 | mx r=>
  have Z:=my hV hG r h.2;simp only[fR,eg,cQ,bq,gU,eV];have:ga.length=5:=rfl;omega
theorem og:∀(ps:List (ByteArray×Bool)) (aW:List dt),iU G V ps aW->Atom.count (ep (aW.map fR))<=24*ps.length/\fX (ep (aW.map fR))<=126*ps.length
 | [],[],_=>⟨LK _,LK _⟩
 | [p],[a],h=>by
  have:=mw hV hG p a h.1;simp only[LQ,Me,ep,LZ,Ma]
  omega
 | p::q::ps,a::b::aW,h=>by
  have ac:=mw hV hG p a h.1;have Z:=og (q::ps) (b::aW) h.2;simp only[LQ] at Z;simp only[LQ,ep,count_append,cy,cQ,bC,bq,er,eV,LZ,Ma] at Z ⊢
  omega
 | [],_::_,h=>h.elim
 | _::_,[],h=>h.elim
 | [_],_::_::_,h=>h.2.elim
 | _::_::_,[_],h=>h.2.elim
theorem q3(ps:List (ByteArray×Bool))(aW:List dt)(h:iU G V ps aW)(hp:ps.length<=2):Atom.count (iZ aW)<=50/\fX (iZ aW)<=254:=by
 have:=og hV hG ps aW h;simp only[iZ,cy,count_append,count_nil,bq,bC,cH,er,LZ,Ma];omega
end
theorem g8(t:Nat):Atom.count (fM t)=0/\fX (fM t)=t:=by
 induction t with
 | zero=>exact⟨rfl,rfl⟩
 | succ t Z=>
  have e:fM (t+1)=.ws 9::fM t:=rfl;rw[e,cQ,bq,eV];omega
theorem c9{G:Env}(hG:nU G):∀(b:ao) (d t:Nat) (V T:Mu),dO V->t+d<=8->fm G d V T b->Atom.count (aX t b)<=53*b.num/\fX (aX t b)<=400*b.num
 | .nil,d,t,V,T,_,_,_=>⟨LK _,LK _⟩
 | .set v n e rest,d,t,V,T,hV,ht,h=>by
  have co:=g8 t
  cases v with
  | true=>
   have E:bD n.data.toList=true/\n∉T/\e.src V 2/\fm G d (V++[n]) (T++[n]) rest:=by cases d<;>exact h
   have Z:=c9 hG rest d t _ _ (j7 hV E.1) ht E.2.2.2;have aw:=du hV 2 e E.2.2.1;have hn:=eM E.1;simp only[cE,bE] at aw;simp only[aX,if_true,count_append,eg,cQ,dg,cy,count_nil,bC,bq,cH,gU,eV,eL,er,ao.num,LZ,Ma]
   omega
  | false=>
   have E:n∈V/\e.src V 2/\fm G d V T rest:=by cases d<;>exact h
   have Z:=c9 hG rest d t _ _ hV ht E.2.2;have aw:=du hV 2 e E.2.1;have hn:=eM (hV n E.1);simp only[cE,bE] at aw;simp only[aX,Mm,if_false,count_append,cQ,dg,cy,count_nil,bC,bq,cH,eV,eL,er,ao.num,LZ,Ma]
   omega
 | .call g n aW rest,d,t,V,T,hV,ht,h=>by
  have co:=g8 t;have E:(∃ps,(n,ps)∈G.funcs/\iU G V ps aW)/\fm G d V T rest:=by cases d<;>exact h
  obtain⟨⟨ps,J,has⟩,a5⟩:=E;have Z:=c9 hG rest d t _ _ hV ht a5;have bG:=q3 hV hG ps aW has (hG.funcs _ J).2;have hn:=eM (hG.funcs _ J).1;cases g<;>
  .simp only[aX,Mm,if_false,if_true,count_append,eg,cQ,dg,cy,count_nil,bC,bq,cH,gU,eV,eL,er,ao.num,LZ,Ma];simp only[] at hn
   omega
 | .lock u r rest,d,t,V,T,hV,ht,h=>by
  have co:=g8 t;have E:sc G V r/\fm G d V T rest:=by cases d<;>exact h
  have Z:=c9 hG rest d t _ _ hV ht E.2;have cv:=my hV hG r E.1;cases u<;>
  .simp only[aX,Mm,if_false,if_true,count_append,eg,cQ,cy,bC,bq,gU,eV,er,ao.num,LZ,Ma]
   omega
 | .ite e th el rest,0,t,V,T,hV,ht,h=>h.elim
 | .gI e th rest,0,t,V,T,hV,ht,h=>h.elim
 | .ite e th el rest,d+1,t,V,T,hV,ht,h=>by
  have co:=g8 t;have j:=c9 hG th d (t+1) _ _ hV ad h.2.1;have o:=c9 hG el d (t+1) _ _ hV ad h.2.2.1;have Z:=c9 hG rest (d+1) t _ _ hV ht h.2.2.2;have aw:=du hV 2 e h.1;simp only[cE,bE] at aw;cases hn:el.isNil<;>
  .simp only[aX,hn,Mm,if_false,if_true,L4,Mh,count_append,eg,cQ,cy,count_nil,bC,bq,cH,gU,eV,er,ao.num,LZ,Ma]
   omega
 | .gI e th rest,d+1,t,V,T,hV,ht,h=>by
  have co:=g8 t;have j:=c9 hG th d (t+1) _ _ hV ad h.2.1;have Z:=c9 hG rest (d+1) t _ _ hV ht h.2.2;have aw:=du hV 2 e h.1;simp only[cE,bE] at aw;simp only[aX,count_append,eg,cQ,cy,bC,bq,gU,eV,er,ao.num,LZ,Ma]
  omega
 | .ret rest,d,t,V,T,hV,ht,h=>by
  have co:=g8 t;have E:fm G d V T rest:=by cases d<;>exact h
  have Z:=c9 hG rest d t _ _ hV ht E;simp only[aX,count_append,eg,cQ,cy,bC,bq,gU,eV,er,ao.num,LZ,Ma];omega
def hZ(n:Int):List Atom:=if n<0 then [.sg [45],.num (jz n.natAbs)] else [.num (jz n.toNat)]
def hW(g:ByteArray×Int):List Atom:=kw [118,97,114]::.ws 32::.word g.1.data.toList::((if g.2=0 then [] else .ws 32::.sg [61]::.ws 32::hZ g.2)++[.sg [59],.ws 10])
def hY(m:bM):List Atom:=kw (if m.re then [114,109,117,116,101,120] else ga)::.ws 32::.word m.name.data.toList::((if 0<m.size then .sg [91]::(hZ m.size++[.sg [93]]) else [])++[.sg [59],.ws 10])
def gT(p:ByteArray×Bool):List Atom:=if p.2 then [kw ga,.ws 32,.word p.1.data.toList] else [.word p.1.data.toList]
def hR(f:aL):List Atom:=kw [102,117,110,99]::.ws 32::.word f.name.data.toList::.sg [40]::(ep (f.params.map gT)++(.sg [41]::.ws 32::.sg [123]::.ws 10::(aX 1 f.body++[.sg [125],.ws 10])))
def fS(p:bQ):List Atom:=p.globals.flatMap hW++(p.af.flatMap hY++p.funcs.flatMap hR)
def fC(p:bQ):List ByteArray:=p.globals.map (·.1)
def bk(p:bQ):List ByteArray:=fC p++p.af.map (·.name)++p.funcs.map (·.name)
def sigs(p:bQ):List (ByteArray×List (ByteArray×Bool)):=p.funcs.map λf=>(f.name,f.params)
def h7(p:bQ)(f:aL):Env:=⟨p.af,f.params,sigs p⟩
def cz(ps:List (ByteArray×Bool)):List ByteArray:=(ps.filter λq=>!q.2).map (·.1)
structure Ls(p:bQ)(f:aL):Prop where
 params:∀q∈f.params,bD q.1.data.toList=true
 ja:f.params.length<=2
 fresh:(bk p++f.params.map (·.1)).Nodup
 body:fm (h7 p f) 4 (fC p++cz f.params) (bk p++f.params.map (·.1)) f.body
structure oJ(p:bQ):Prop where
 names:∀s∈bk p,bD s.data.toList=true
 nodup:(bk p).Nodup
 oj:p.globals.length<=16
 wP:p.af.length<=12
 E0:p.funcs.length<=16
 inits:∀g∈p.globals,-9223372036854775807<=g.2/\g.2<=9223372036854775807
 eD:∀m∈p.af,0<=m.size/\m.size<=64/\(m.re=true->m.size=0)
 funcs:∀f∈p.funcs,Ls p f
 main:∃(i:Nat) (f:aL),p.funcs[i]?=some f/\f.name=⟨#[109,97,105,110]⟩/\f.params=[]
 ja:(p.funcs.map λf=>f.body.num).sum<=64
theorem oJ.env(h:oJ p){f:aL}(J:f∈p.funcs):nU (h7 p f) where
 af:=λm hm=>h.names _ (by simp only[bk,LU,Mf];exact .inl (.inr ⟨m,hm,rfl⟩))
 params:=(h.funcs f J).params
 funcs:=λg aR=>by
  obtain⟨k,aj,rfl⟩:=Mf.1 aR;exact⟨h.names _ (by simp only[bk,LU,Mf];exact .inr ⟨k,aj,rfl⟩),(h.funcs k aj).ja⟩
theorem oJ.vars(h:oJ p){f:aL}(J:f∈p.funcs):dO (fC p++cz f.params):=by
 intro s hs;rcases LU.1 hs with hs|hs
 .exact h.names _ (by simp only[bk,LU];exact .inl (.inl hs))
 .obtain⟨q,bK,rfl⟩:=Mf.1 hs;exact(h.funcs f J).params q (List.mem_filter.1 bK).1
theorem j2{α:Type}(f:α->List Atom):∀(l:List α),(∀x∈l,h1 (f x))->h1 (l.flatMap f)
 | [],_=>⟨trivial,λa h=>by simp at h⟩
 | x::l,h=>by
  have Z:=j2 f l λy bb=>h y (by simp[bb]);have hx:=h x (by simp);refine⟨hx.app Z.1,λa aZ=>?_⟩;rw[Mb,List.getLast?_append] at aZ
  cases hl:(l.flatMap f).getLast? with
  | none=>rw[hl] at aZ;exact hx.2 a (by simpa using aZ)
  | some b=>
   rw[hl] at aZ;simp at aZ;subst aZ;exact Z.2 b hl
theorem j3{α:Type}(f:α->List Atom)(g:α->Nat)(c k:Nat):∀(l:List α),(∀x∈l,Atom.count (f x)<=c+53*g x/\fX (f x)<=k+400*g x)->
  Atom.count (l.flatMap f)<=c*l.length+53*(l.map g).sum/\fX (l.flatMap f)<=k*l.length+400*(l.map g).sum
 | [],_=>⟨by simp[count_nil],by simp[cH]⟩
 | x::l,h=>by
  have Z:=j3 f g c k l λy bb=>h y (by simp[bb]);have hx:=h x (by simp);simp only[Mb,count_append,bC,LZ,LQ,List.sum_cons,Nat.mul_add,Nat.mul_one];omega
theorem I3{α:Type}(l:List α):(l.map λ_=>0).sum=0:=by induction l<;>simp_all
theorem pI(n:Int)(h:-9223372036854775807<=n/\n<=9223372036854775807):lB (hZ n)/\Atom.count (hZ n)<=2/\fX (hZ n)<=20:=by
 unfold hZ;split
 .have aR:=ql (n:=n.natAbs) ad;have hl:=jA 18 n.natAbs ad;refine⟨FC (.inl rfl) ⟨aR,⟨_,rfl,.inl ⟨rfl,aR⟩⟩,⟨_,rfl,.inl rfl⟩⟩,?_,?_⟩
  .simp only[cy,ns,count_nil];omega
  .simp only[bq,cH,er,s4,LZ,Ma];omega
 .have aR:=ql (n:=n.toNat) ad;have hl:=jA 18 n.toNat ad;refine⟨⟨aR,⟨_,rfl,.inl ⟨rfl,aR⟩⟩,⟨_,rfl,.inl rfl⟩⟩,?_,?_⟩
  .simp only[ns,count_nil];omega
  .simp only[bq,cH,s4];omega
theorem GP:Atom.chain [.sg [59],.ws 10]:=cd (cq (.inl (by decide))) rfl rfl
theorem rq(g:ByteArray×Int)(hn:bD g.1.data.toList=true)(h:-9223372036854775807<=g.2/\g.2<=9223372036854775807):h1 (hW g)/\Atom.count (hW g)<=6/\fX (hW g)<=50:=by
 have hl:=eM hn;obtain⟨aL,hc,O⟩:=pI g.2 h;have aj:(kw [118,97,114]).gk:=fP (by decide);refine⟨⟨?_,λa aZ=>?_⟩,?_⟩
 .unfold hW;refine cd aj rfl (dd rfl ?_);split
  .exact iC (dM hn) rfl GP
  .exact cd (dM hn) rfl (dd rfl (cd (cq (.inl (by decide))) rfl (dd rfl (fp aL (.inr (.inr (.inl rfl))) GP))))
 .unfold hW at aZ;exact z5
 .unfold hW;have aV:([118,97,114]:List UInt8).length=3:=rfl;split
  .simp only[Mh,eg,cQ,dg,cy,count_nil,bq,cH,gU,eV,eL,er,LZ,Ma];omega
  .simp only[L4,eg,cQ,dg,cy,count_append,count_nil,bq,bC,cH,gU,eV,eL,er,LZ,Ma];omega
theorem rr(m:bM)(hn:bD m.name.data.toList=true)(h:0<=m.size/\m.size<=64):h1 (hY m)/\Atom.count (hY m)<=7/\fX (hY m)<=50:=by
 have hl:=eM hn;obtain⟨aL,hc,O⟩:=pI m.size ad;have aj:(kw (if m.re then [114,109,117,116,101,120] else ga)).gk:=fP (by split<;>decide);have bP:(if m.re then [114,109,117,116,101,120] else ga:List UInt8).length<=6:=by split<;>decide
 refine⟨⟨?_,λa aZ=>?_⟩,?_⟩
 .unfold hY;refine cd aj rfl (dd rfl ?_);split
  .simp only[L4,L3];refine iC (dM hn) rfl (oQ (.inr rfl) aL (fp aL (.inr (.inl rfl)) (cU (cq (.inl (by decide))) GP λb O=>?_)));simp at O;subst O;exact oS _ (.inr (.inr rfl)) _ (.inr (.inr (.inl rfl)))
  .exact iC (dM hn) rfl GP
 .unfold hY at aZ;exact z5
 .unfold hY;generalize (if m.re then [114,109,117,116,101,120] else ga:List UInt8)=s at *;split
  .simp only[L4,eg,cQ,dg,cy,count_append,count_nil,bq,bC,cH,gU,eV,eL,er,LZ,Ma];omega
  .simp only[Mh,eg,cQ,dg,cy,count_nil,bq,cH,gU,eV,eL,er,LZ,Ma];omega
theorem nj(p:ByteArray×Bool)(hn:bD p.1.data.toList=true):lB (gT p)/\Atom.count (gT p)<=2/\fX (gT p)<=22:=by
 have hl:=eM hn;have hw:=dM hn;have aj:(kw ga).gk:=fP (by decide);have cI:ga.length=5:=rfl;unfold gT;split
 .refine⟨⟨cd aj rfl (dd rfl hw),⟨_,rfl,.inl ⟨rfl,aj⟩⟩,⟨_,rfl,.inl rfl⟩⟩,?_⟩;simp only[eg,cQ,dg,count_nil,bq,cH,gU,eV,eL];omega
 .refine⟨⟨hw,⟨_,rfl,.inl ⟨rfl,hw⟩⟩,⟨_,rfl,.inl rfl⟩⟩,?_⟩;exact Al
theorem oh:∀(l:List (ByteArray×Bool)),(∀q∈l,bD q.1.data.toList=true)->Atom.count (ep (l.map gT))<=3*l.length/\fX (ep (l.map gT))<=24*l.length
 | [],_=>⟨LK _,LK _⟩
 | [p],h=>by
  have:=(nj p (h p (by simp))).2;simp only[LQ,Me,ep,LZ,Ma]
  omega
 | p::q::l,h=>by
  have ac:=(nj p (h p (by simp))).2;have Z:=oh (q::l) λx hx=>h x (by simp[hx]);simp only[LQ] at Z;simp only[LQ,ep,count_append,cy,cQ,bC,bq,er,eV,LZ,Ma] at Z ⊢;omega
theorem rp(hp:oJ p){f:aL}(J:f∈p.funcs):h1 (hR f)/\Atom.count (hR f)<=13+53*f.body.num/\fX (hR f)<=80+400*f.body.num:=by
 have hF:=hp.funcs f J;have hn:bD f.name.data.toList=true:=hp.names _ (by simp only[bk,LU,Mf];exact .inr ⟨f,J,rfl⟩);have hl:=eM hn;have hc:=c8 (hp.env J) f.body 4 1 _ _ (hp.vars J) hF.body;have aj:=c9 (hp.env J) f.body 4 1 _ _ (hp.vars J) ad hF.body;have bK:=oh f.params hF.params;have I:=hF.ja;have k:(Atom.sg [123]).gk:=cq (.inl (by decide));have i:Atom.chain [.sg [125],.ws 10]:=cd (cq (.inl (by decide))) rfl rfl;have e1:h1 (aX 1 f.body):=⟨hc,dS f.body 1⟩
 have tail:Atom.chain (.sg [41]::.ws 32::.sg [123]::.ws 10::(aX 1 f.body++[.sg [125],.ws 10])):=
  cd (cq (.inl (by decide))) rfl (dd rfl (cd k rfl (dd rfl (e1.app i))))
 refine⟨⟨?_,λa aZ=>?_⟩,?_⟩
 .unfold hR;refine cd (fP (by decide)) rfl (dd rfl (iC (dM hn) rfl ?_))
  cases bO:f.params with
  | nil=>
   refine cU (cq (.inl (by decide))) tail λb O=>?_
   exact zG
  | cons q l=>
   have hs:lB (ep ((q::l).map gT)):=nB _ (λa aZ=>by
    obtain⟨x,hx,rfl⟩:=Mf.1 aZ;exact(nj x (hF.params x (by rw[bO];exact hx))).1) (by simp)
   exact oQ (.inl rfl) hs (fp hs (.inl rfl) tail)
 .unfold hR at aZ;exact(lC.cons (.cons (.cons (.cons (.app (.cons (.cons (.cons (.cons (.app (.cons (.nl (l:=[]) λa h=>by simp at h)))))))))))).2 a aZ
 .have bz:([102,117,110,99]:List UInt8).length=4:=rfl;simp only[hR,eg,cQ,dg,cy,count_append,count_nil,bq,bC,cH,gU,eV,eL,er,LZ,Ma];omega
theorem uB(hp:oJ p):(dE (aV (fS p))).2.2=0:=by
 have aR:∀g∈p.globals,bD g.1.data.toList=true:=λg h=>hp.names _ (by simp only[bk,fC,LU,Mf];exact .inl (.inl ⟨g,h,rfl⟩));have hm:∀m∈p.af,bD m.name.data.toList=true:=λm h=>hp.names _ (by simp only[bk,LU,Mf];exact .inl (.inr ⟨m,h,rfl⟩));have c1:=j2 hW p.globals λg h=>(rq g (aR g h) (hp.inits g h)).1;have c2:=j2 hY p.af λm h=>(rr m (hm m h) ⟨(hp.eD m h).1,(hp.eD m h).2.1⟩).1;have c3:=j2 hR p.funcs λf h=>(rp hp h).1;have cx:=j3 hW (λ_=>0) 6 50 p.globals λg h=>by have:=(rq g (aR g h) (hp.inits g h)).2;omega
 have bY:=j3 hY (λ_=>0) 7 50 p.af λm h=>by have:=(rr m (hm m h) ⟨(hp.eD m h).1,(hp.eD m h).2.1⟩).2;omega
 have b9:=j3 hR (λf=>f.body.num) 13 80 p.funcs λf h=>(rp hp h).2;rw[I3] at cx bY;have n1:=hp.oj;have n2:=hp.wP;have n3:=hp.E0;have n4:=hp.ja;have hlen:(aV (fS p)).length<=262144:=by
  have:fX (fS p)=fX (p.globals.flatMap hW)+(fX (p.af.flatMap hY)+fX (p.funcs.flatMap hR)):=by unfold fS;rw[bC,bC]
  unfold fX at this cx bY b9;omega
 unfold dE;rw[if_neg ad];refine wB (fS p) _ _ [] ?_ (Nat.lt_succ_self _) ?_
 .exact c1.app (c2.app c3.1)
 .unfold fS;rw[count_append,count_append];simp only[Ma];omega
end Go.Proofs.YtpkfopfkdgkfkaaGreat
