/- Part 6 of the proof (PrintP PrintQ PrintR PrintS PrintT PrintU), without conditions of its own. -/
import Derived.Test.YtjhgbdckgkppnaaGreatQ04
import Derived.Test.YtjhgbdckgkppnaaGreatQ05
namespace Go.Proofs.YtjhgbdckgkppnaaGreat
open Go.RowKit Go.Proofs.Tryz
set_option maxRecDepth 1000000
set_option maxHeartbeats 25600000
set_option linter.unusedVariables false
variable{a:Atom}{l m:List Atom}{s:List UInt8}{c:UInt8}{p:bC}
def iw(n:Nat):List UInt8:=if n<10 then [UInt8.ofNat (48+n)] else iw (n / 10)++[UInt8.ofNat (48+n % 10)]
 termination_by n
theorem k1(d:Nat)(h:d<10):(UInt8.ofNat (48+d)).toNat=48+d:=by simp;omega
theorem qY(n:Nat):(iw n).all bp=true∧∃c l,iw n=c::l:=by
 induction n using Nat.strongRecOn with
 | _ n aa=>
  rw[iw];split
  ·rename_i h;refine⟨?_,_,_,rfl⟩;simp only[List.all_cons,List.all_nil,Bool.and_true,bp,k1 n h,Gn,GK];omega
  ·obtain⟨ac,c,l,J⟩:=aa (n / 10) ad;refine⟨?_,c,l++[UInt8.ofNat (48+n % 10)],by rw[J];rfl⟩;simp only[List.all_append,ac,List.all_cons,List.all_nil,Bool.and_true,Bool.true_and,bp,k1 (n % 10) ad,Gn,GK];omega
theorem pC:∀(ar dd:List UInt8) (n:Int),0≤n→ar.all bp=true→hG n (ar++dd)=if hG n ar<0 then -1 else hG (hG n ar) dd
 | [],dd,n,hn,_=>by
  have h0:hG n []=n:=rfl
  rw[GG,h0,if_neg ad]
 | c::ar,dd,n,hn,h=>by
  simp only[List.all_cons,Gn] at h;have hd:48≤c.toNat:=by have:=h.1;simp only[bp,Gn,GK] at this;exact this.1
  simp only[Gs,hG];split
  ·simp
  ·exact pC ar dd _ ad h.2
theorem vA(n:Nat)(h:n≤9223372036854775807):oh (iw n)=n:=by
 unfold oh
 induction n using Nat.strongRecOn with
 | _ n aa=>
  rw[iw];split
  ·rename_i h;simp only[hG,k1 n h];rw[if_neg ad];omega
  ·have i:=aa (n / 10) ad ad;rw[pC _ _ _ ad (qY _).1,i,if_neg ad];simp only[hG,k1 (n % 10) ad];rw[if_neg ad];omega
def Atom.last(aO:List Atom):Option Atom:=aO.getLast?
theorem dP:∀(aO f:List Atom),Atom.chain aO→Atom.chain f→(∀a b,aO.getLast?=some a→f.head?=some b→a.fits b)→Atom.chain (aO++f)
 | [],f,_,O,_=>O
 | [a],[],aV,_,_=>aV
 | [a],b::f,aV,O,aw=>⟨aV,aw a b rfl rfl,O⟩
 | a::I::aO,f,aV,O,aw=>by
  have aa:=dP (I::aO) f aV.2.2 O (fun x y hx a3=>aw x y (by rw[List.getLast?_cons_cons];exact hx) a3);exact⟨aV.1,aV.2.1,aa⟩
theorem count_append:∀(aO f:List Atom),Atom.count (aO++f)=Atom.count aO+Atom.count f
 | [],f=>by simp[Atom.count]
 | a::aO,f=>by
  have aa:=count_append aO f;cases a<;>simp only[Gs,Atom.count,aa]<;>omega
def aS(aO:List Atom):List UInt8:=aO.flatMap Atom.bytes
theorem a2(aO f:List Atom):aS (aO++f)=aS aO++aS f:=List.flatMap_append
theorem aX(a:Atom)(f:List Atom):aS (a::f)=a.bytes++aS f:=Gx
theorem nj(c:UInt8)(b:Atom):(Atom.ws c).fits b:=⟨fun h=>by simp[Atom.jo] at h,fun s h=>by cases h⟩
theorem m3(a:Atom)(c:UInt8)(h:ni c=true):a.fits (.ws c):=by
 refine⟨fun _=>rfl,fun s _ _ d hd=>?_⟩;simp only[Atom.head,GI] at hd;subst hd;have key:∀s∈d7,∀d:UInt8,(d=32∨d=9∨d=10∨d=13)→(s++[d])∉eF∧¬(s=[47]∧d=47):=by
  intro s hs d hd;rcases hd with rfl|rfl|rfl|rfl<;>revert s<;>decide
 refine key s (by assumption) c ?_;simp only[ni,Bool.or_eq_true,beq_iff_eq] at h;rcases h with((h|h)|h)|h<;>simp[h]
theorem uu(a b:Atom)(aV:a.jo=true)(O:b.jo=false):a.fits b:=⟨fun _=>O,fun s h=>by subst h;simp[Atom.jo] at aV⟩
def qA(a:Atom):Prop:=a.jo=true∧a.fi∨a=.sg [45]∨a=.sg [33]∨a=.sg [40]
def DA(a:Atom):Prop:=a.jo=true∨a=.sg [41]∨a=.sg [93]
theorem B5(a:Atom)(h:a.jo=true)(aM:a.fi)(c:UInt8)(hc:a.head=some c):bY c=true:=by
 cases a with
 | ws _=>simp[Atom.jo] at h
 | sg _=>simp[Atom.jo] at h
 | word s=>
  obtain⟨⟨d,l,rfl,ac,_⟩,_⟩:=aM;simp only[Atom.head,List.head?_cons,GI] at hc;subst hc
  simp[bY,ac]
 | num s=>
  obtain⟨⟨d,l,rfl⟩,ac,_⟩:=aM;simp only[Atom.head,List.head?_cons,GI] at hc;subst hc;simp only[List.all_cons,Gn] at ac;simp[bY,ac.1]
theorem l4(s:List UInt8)(hs:s=[45]∨s=[33]∨s=[40]∨s=[91])(b:Atom)(O:qA b):(Atom.sg s).fits b:=by
 refine⟨fun h=>by simp[Atom.jo] at h,fun t ht _ c hc=>?_⟩;injection ht with ht;subst ht;have Z:bY c=true∨c=45∨c=33∨c=40:=by
  rcases O with⟨ac,J⟩|rfl|rfl|rfl
  ·exact .inl (B5 b ac J c hc)
  all_goals simp[Atom.head] at hc;subst hc;simp
 have a2:c≠61∧c≠38∧c≠124∧c≠47:=by
  rcases Z with h|rfl|rfl|rfl
  ·refine⟨?_,?_,?_,?_⟩<;>(rintro rfl;revert h;decide)
  all_goals decide
 rcases hs with rfl|rfl|rfl|rfl<;>simp[eF,a2]
theorem m1(a:Atom)(aV:DA a)(s:List UInt8)(hs:s=[41]∨s=[93]∨s=[59]∨s=[44]):a.fits (.sg s):=by
 rcases aV with h|rfl|rfl
 ·exact uu _ _ h rfl
 all_goals
  refine⟨fun h=>by simp[Atom.jo] at h,fun t ht _ c hc=>?_⟩;injection ht with ht;subst ht;rcases hs with rfl|rfl|rfl|rfl<;>(simp[Atom.head] at hc;subst hc;decide)
def aU:VE→Int
 | .num _=>1
 | .ga _=>2
 | .loc _=>18
 | .hR _=>19
 | .un op _=>op
 | .bin op _ _=>op
def cB(op:Int):Int:=if op=17 then 0 else if op=16 then 1 else if 10≤op∧op≤15 then 2 else if op=8∨op=9 then 3 else if 5≤op∧op≤7 then 4 else if op=3∨op=4 then 5 else 6
def dk(op arg:Int)(second:Bool):Bool:=decide (cB arg<cB op) || (cB arg == cB op && second)
def f1(op:Int):List UInt8:=
 if op=5 then [42] else if op=6 then [47] else if op=7 then [37] else if op=8 then [43] else if op=9 then [45] else if op=10 then [60] else if op=11 then [60,61]
 else if op=12 then [62] else if op=13 then [62,61] else if op=14 then [61,61] else if op=15 then [33,61] else if op=16 then [38,38] else [124,124]
def par(b:Bool)(aO:List Atom):List Atom:=if b then .sg [40]::(aO++[.sg [41]]) else aO
def b9:VE→List Atom
 | .num n=>[.num (iw n.toNat)]
 | .ga s=>[.word s.data.toList]
 | .loc _=>[]
 | .hR _=>[]
 | .un op x=>.sg (if op=3 then [45] else [33])::par (dk op (aU x) false) (b9 x)
 | .bin op x y=>par (dk op (aU x) false) (b9 x)++(.ws 32::.sg (f1 op)::.ws 32::par (dk op (aU y) true) (b9 y))
def VE.src(N:GS):Nat→VE→Prop
 | _,.num n=>0≤n∧n<4611686018427387904
 | _,.ga s=>s∈N
 | _,.loc _=>False
 | _,.hR _=>False
 | 0,.un _ _=>False
 | 0,.bin _ _ _=>False
 | d+1,.un op x=>(op=3∨op=4)∧VE.src N d x
 | d+1,.bin op x y=>(5≤op∧op≤17)∧VE.src N d x∧VE.src N d y
def du(N:GS):Prop:=∀s∈N,br s.data.toList=true
structure ki(aO:List Atom):Prop where
 chain:Atom.chain aO
 first:∃a,aO.head?=some a∧qA a
 last:∃a,aO.getLast?=some a∧DA a
theorem getLast_append{aO f:List Atom}(h:f.getLast?=some a):(aO++f).getLast?=some a:=by
 rw[List.getLast?_append,h];rfl
theorem head_append{aO f:List Atom}(h:aO.head?=some a):(aO++f).head?=some a:=by
 rw[List.head?_append,h];rfl
theorem cy{aO:List Atom}(aV:a.fi)(h:Atom.chain aO)(aw:∀b,aO.head?=some b→a.fits b):Atom.chain (a::aO):=
 dP [a] aO aV h fun x b hx O=>by
  simp at hx;subst hx;exact aw b O
theorem b3(h:s∈d7∨s∈eF):(Atom.sg s).fi:=h.symm
theorem ki.par{aO:List Atom}(h:ki aO)(b:Bool):ki (par b aO):=by
 cases b
 ·exact h
 ·obtain⟨a,aV,hs⟩:=h.first;obtain⟨z,bv,he⟩:=h.last;refine⟨?_,⟨_,rfl,.inr (.inr (.inr rfl))⟩,⟨.sg [41],?_,.inr (.inl rfl)⟩⟩
  ·refine cy (b3 (.inl (by decide))) (dP _ _ h.chain (b3 (.inl (by decide))) fun x y hx a3=>?_) fun y a3=>?_
   ·rw[bv] at hx;injection hx with hx;subst hx;simp at a3;subst a3;exact m1 _ he _ (.inl rfl)
   ·rw[head_append aV] at a3;injection a3 with a3;subst a3;exact l4 _ (.inr (.inr (.inl rfl))) _ hs
  ·show (Atom.sg [40]::(aO++[Atom.sg [41]])).getLast?=some (.sg [41])
   rw[←Gs];exact getLast_append rfl
theorem tB(op:Int):f1 op∈d7∨f1 op∈eF:=by
 unfold f1
 repeat' split
 all_goals first|exact .inl (by decide)|exact .inr (by decide)
theorem dn(h:br s=true):(Atom.word s).fi:=by
 cases s with
 | nil=>simp[br] at h
 | cons c l=>
  simp only[br,Gn,GK] at h;exact⟨⟨c,l,rfl,h.1.1.1,h.1.1.2⟩,.inr h.1.2⟩
theorem oj{n:Nat}(h:n≤9223372036854775807):(Atom.num (iw n)).fi:=by
 obtain⟨ac,J⟩:=qY n;exact⟨J,ac,by rw[vA n h];omega⟩
theorem Bu{aO:List Atom}(hs:s=[45]∨s=[33])(h:ki aO):ki (.sg s::aO):=by
 obtain⟨a,aV,b8⟩:=h.first;obtain⟨z,bv,he⟩:=h.last;refine⟨cy (b3 (.inl (by rcases hs with rfl|rfl<;>decide))) h.chain fun b O=>?_,⟨_,rfl,by rcases hs with rfl|rfl<;>simp[qA]⟩,⟨z,?_,he⟩⟩
 ·rw[aV] at O;injection O with O;subst O;exact l4 _ (by rcases hs with rfl|rfl<;>simp) _ b8
 ·show ([Atom.sg s]++aO).getLast?=some z
  exact getLast_append bv
theorem dO{N:GS}(cj:du N):∀(d:Nat) (x:VE),x.src N d→ki (b9 x)
 | d,.num n,h=>by
  have F:0≤n∧n<4611686018427387904:=by cases d<;>exact h
  have aM:=oj (n:=n.toNat) ad
  exact⟨aM,⟨_,rfl,.inl ⟨rfl,aM⟩⟩,⟨_,rfl,.inl rfl⟩⟩
 | d,.ga s,h=>by
  have F:s∈N:=by cases d<;>exact h
  have aM:=dn (cj s F)
  exact⟨aM,⟨_,rfl,.inl ⟨rfl,aM⟩⟩,⟨_,rfl,.inl rfl⟩⟩
 | d,.loc _,h=>by cases d<;>exact h.elim
 | d,.hR _,h=>by cases d<;>exact h.elim
 | 0,.un _ _,h=>h.elim
 | 0,.bin _ _ _,h=>h.elim
 | d+1,.un op x,h=>by
  unfold b9
  exact Bu (by split<;>simp) ((dO cj d x h.2).par (dk op (aU x) false))
 | d+1,.bin op x y,h=>by
  have i:=(dO cj d x h.2.1).par (dk op (aU x) false);have c:=(dO cj d y h.2.2).par (dk op (aU y) true);unfold b9;generalize par (dk op (aU x) false) (b9 x)=aO at *;generalize par (dk op (aU y) true) (b9 y)=f at *;obtain⟨a,aV,b8⟩:=i.first;obtain⟨z,bv,he⟩:=c.last;refine⟨dP _ _ i.chain ?_ ?_,⟨a,head_append aV,b8⟩,⟨z,getLast_append ?_,he⟩⟩
  ·refine cy rfl (cy (b3 (tB op)) (cy rfl c.chain fun b _=>nj _ b) fun b O=>?_) fun b _=>nj _ b;simp at O;subst O;exact m3 _ _ rfl
  ·intro x y _ a3;simp at a3;subst a3;exact m3 _ _ rfl
  ·show ([Atom.ws 32,Atom.sg (f1 op),Atom.ws 32]++f).getLast?=some z
   exact getLast_append bv
structure Env where
 af:List bF
 params:List (ByteArray×Bool)
 funcs:List (ByteArray×List (ByteArray×Bool))
def pN(G:Env)(V:GS)(r:d2):Prop:=
 (∃m∈G.af,m.name=r.name∧(0<m.size→∃e,r.idx=some e∧e.src V 2)∧(¬0<m.size→r.idx=none))∨((r.name,true)∈G.params∧r.idx=none)
def Fs(G:Env)(V:GS)(p:ByteArray×Bool):cQ→Prop
 | .mx r=>p.2=true∧pN G V r
 | .ex e=>p.2=false∧e.src V 2
def hN(G:Env)(V:GS):List (ByteArray×Bool)→List cQ→Prop
 | [],[]=>True
 | p::ps,a::aO=>Fs G V p a∧hN G V ps aO
 | _,_=>False
def ej(G:Env):(d:Nat)→(V T:GS)→aj→Prop
 | _,_,_,.nil=>True
 | d,V,T,.set true n e rest=>br n.data.toList=true∧n∉T∧e.src V 2∧ej G d (V++[n]) (T++[n]) rest
 | d,V,T,.set false n e rest=>n∈V∧e.src V 2∧ej G d V T rest
 | d,V,T,.call _ n aO rest=>(∃ps,(n,ps)∈G.funcs∧hN G V ps aO)∧ej G d V T rest
 | d,V,T,.lock _ r rest=>pN G V r∧ej G d V T rest
 | 0,_,_,.ite ..=>False
 | 0,_,_,.fj ..=>False
 | d+1,V,T,.ite e th el rest=>e.src V 2∧ej G d V T th∧ej G d V T el∧ej G (d+1) V T rest
 | d+1,V,T,.fj e th rest=>e.src V 2∧ej G d V T th∧ej G (d+1) V T rest
 | d,V,T,.ret rest=>ej G d V T rest
def aj.isNil:aj→Bool
 | .nil=>true
 | _=>false
def aj.num:aj→Nat
 | .nil=>0
 | .set _ _ _ rest=>rest.num+1
 | .call _ _ _ rest=>rest.num+1
 | .lock _ _ rest=>rest.num+1
 | .ite _ th el rest=>th.num+el.num+rest.num+1
 | .fj _ th rest=>th.num+rest.num+1
 | .ret rest=>rest.num+1
def kw(s:List UInt8):Atom:=.word s
def hh(r:d2):List Atom:=.word r.name.data.toList::(match r.idx with|none=>[]|some e=>.sg [91]::(b9 e++[.sg [93]]))
def e4:List UInt8:=[109,117,116,101,120]
def eO:cQ→List Atom
 | .mx r=>kw e4::.ws 32::hh r
 | .ex e=>b9 e
def dH:List (List Atom)→List Atom
 | []=>[]
 | [a]=>a
 | a::b::l=>a++(.sg [44]::.ws 32::dH (b::l))
def hQ(aO:List cQ):List Atom:=.sg [40]::(dH (aO.map eO)++[.sg [41]])
def eJ(n:Nat):List Atom:=List.replicate n (.ws 9)
def aT:Nat→aj→List Atom
 | _,.nil=>[]
 | t,.set v n e rest=>eJ t++((if v then [kw [118,97,114],.ws 32] else [])++(.word n.data.toList::.ws 32::.sg [61]::.ws 32::(b9 e++(.sg [59]::.ws 10::aT t rest))))
 | t,.call g n aO rest=>eJ t++((if g then [kw [103,111],.ws 32] else [])++(.word n.data.toList::(hQ aO++(.sg [59]::.ws 10::aT t rest))))
 | t,.lock u r rest=>eJ t++(kw (if u then [117,110,108,111,99,107] else [108,111,99,107])::.ws 32::(hh r++(.sg [59]::.ws 10::aT t rest)))
 | t,.ite e th el rest=>eJ t++(kw [105,102]::.ws 32::(b9 e++(.ws 32::.sg [123]::.ws 10::(aT (t+1) th++(eJ t++(.sg [125] ::
   ((if el.isNil then [] else .ws 32::kw [101,108,115,101]::.ws 32::.sg [123]::.ws 10::(aT (t+1) el++(eJ t++[.sg [125]])))++(.ws 10::aT t rest))))))))
 | t,.fj e th rest=>eJ t++(kw [119,104,105,108,101]::.ws 32::(b9 e++(.ws 32::.sg [123]::.ws 10::(aT (t+1) th++(eJ t++(.sg [125]::.ws 10::aT t rest))))))
 | t,.ret rest=>eJ t++(kw [114,101,116,117,114,110]::.sg [59]::.ws 10::aT t rest)
theorem eN(h:s∈qL):(kw s).fi:=by
 have key:∀s∈qL,(match s with|[]=>false|c::l=>bM c && l.all bY)=true:=by decide
 have:=key s h
 cases s with
 | nil=>cases this
 | cons c l=>
  simp only[Gn] at this;exact⟨⟨c,l,rfl,this.1,this.2⟩,.inl (by simpa [dm] using h)⟩
section
variable {aO f:List Atom}
theorem cH(hc:ni c=true)(h:Atom.chain aO):Atom.chain (.ws c::aO):=cy hc h fun b _=>nj c b
theorem bQ(aV:a.fi)(hc:ni c=true)(h:Atom.chain (.ws c::aO)):Atom.chain (a::.ws c::aO):=
 cy aV h fun b O=>by
  simp at O;subst O;exact m3 _ _ hc
theorem hj(aV:a.fi)(hl:a.jo=true)(h:Atom.chain (.sg s::aO)):Atom.chain (a::.sg s::aO):=
 cy aV h fun b O=>by
  simp at O;subst O;exact uu _ _ hl rfl
theorem ey(ac:ki aO)(hs:s=[41]∨s=[93]∨s=[59]∨s=[44])(h:Atom.chain (.sg s::f)):Atom.chain (aO++.sg s::f):=
 dP _ _ ac.chain h fun a b aV O=>by
  obtain⟨z,bv,he⟩:=ac.last;rw[bv] at aV;injection aV with aV;subst aV;simp at O;subst O;exact m1 _ he _ hs
theorem pa(ac:Atom.chain aO)(hc:ni c=true)(h:Atom.chain (.ws c::f)):Atom.chain (aO++.ws c::f):=
 dP _ _ ac h fun a b _ O=>by
  simp at O;subst O;exact m3 _ _ hc
theorem mY(hs:s=[40]∨s=[91])(ac:ki aO)(h:Atom.chain (aO++f)):Atom.chain (.sg s::(aO++f)):=
 cy (b3 (.inl (by rcases hs with rfl|rfl<;>decide))) h fun b O=>by
  obtain⟨a,aV,b8⟩:=ac.first;rw[head_append aV] at O;injection O with O;subst O;exact l4 _ (by rcases hs with rfl|rfl<;>simp) _ b8
def gG(aO:List Atom):Prop:=Atom.chain aO∧∀a,aO.getLast?=some a→∃c,a=.ws c
theorem gG.app(h:gG aO)(O:Atom.chain f):Atom.chain (aO++f):=
 dP _ _ h.1 O fun a b aV _=>by
  obtain⟨c,rfl⟩:=h.2 a aV;exact nj _ _
theorem fA(n:Nat):gG (eJ n):=by
 induction n with
 | zero=>exact⟨trivial,fun a h=>by simp[eJ] at h⟩
 | succ n aa=>
  refine⟨cH rfl aa.1,fun a h=>?_⟩;simp only[eJ,List.getLast?_replicate] at h;simp at h;exact⟨9,h.symm⟩
theorem rj(h:∀a,m.getLast?=some a→∃c,a=.ws c)(hm:m≠[])(aV:(l++m).getLast?=some a):∃c,a=.ws c:=by
 rw[List.getLast?_append] at aV
 cases hl:m.getLast? with
 | none=>exact absurd (List.getLast?_eq_none_iff.1 hl) hm
 | some b=>
  rw[hl] at aV;simp at aV;subst aV;exact h _ hl
end
theorem nF{G:Env}{V:GS}(hV:du V)(a5:∀m∈G.af,br m.name.data.toList=true)(U:∀p∈G.params,br p.1.data.toList=true)(r:d2)(h:pN G V r):ki (hh r):=by
 have hn:(Atom.word r.name.data.toList).fi:=by
  rcases h with⟨m,hm,he,_⟩|⟨hp,_⟩
  ·rw[←he];exact dn (a5 m hm)
  ·exact dn (U _ hp)
 unfold hh
 cases aJ:r.idx with
 | none=>exact⟨hn,⟨_,rfl,.inl ⟨rfl,hn⟩⟩,⟨_,rfl,.inl rfl⟩⟩
 | some e=>
  have hs:e.src V 2:=by
   exact Dh
  have aa:=dO hV 2 e hs;refine⟨hj hn rfl (mY (.inr rfl) aa (ey aa (.inr (.inl rfl)) (b3 (.inl (by decide))))),⟨_,rfl,.inl ⟨rfl,hn⟩⟩,⟨.sg [93],?_,.inr (.inr rfl)⟩⟩;show ((Atom.word r.name.data.toList::.sg [91]::b9 e)++[Atom.sg [93]]).getLast?=_
  exact getLast_append rfl
theorem lY:∀(l:List (List Atom)),(∀a∈l,ki a)→l≠[]→ki (dH l)
 | [],_,h=>absurd rfl h
 | [a],h,_=>h a (by simp)
 | a::b::l,h,_=>by
  have aa:=lY (b::l) (fun x hx=>h x (by simp[hx])) (by simp);have aV:=h a (by simp);obtain⟨x,hx,hs⟩:=aV.first;obtain⟨z,bv,he⟩:=aa.last;refine⟨ey aV (.inr (.inr (.inr rfl))) (bQ (b3 (.inl (by decide))) rfl (cH rfl aa.chain)),⟨x,head_append hx,hs⟩,⟨z,?_,he⟩⟩;show (a++([Atom.sg [44],Atom.ws 32]++dH (b::l))).getLast?=some z
  exact getLast_append (getLast_append bv)
section
variable {G:Env} {V:GS} (hV:du V) (a5:∀m∈G.af,br m.name.data.toList=true) (U:∀p∈G.params,br p.1.data.toList=true)
include hV a5 U
theorem sL(p:ByteArray×Bool)(a:cQ)(h:Fs G V p a):ki (eO a):=by
 cases a with
 | ex e=>exact dO hV 2 e h.2
 | mx r=>
  have aa:=nF hV a5 U r h.2;have ap:(kw e4).fi:=eN (by decide);obtain⟨z,bv,he⟩:=aa.last;refine⟨bQ ap rfl (cH rfl aa.chain),⟨_,rfl,.inl ⟨rfl,ap⟩⟩,⟨z,?_,he⟩⟩;show ([kw e4,Atom.ws 32]++hh r).getLast?=some z
  exact getLast_append bv
theorem r1:∀(ps:List (ByteArray×Bool)) (aO:List cQ),hN G V ps aO→(∀a∈aO.map eO,ki a)∧aO.length=ps.length
 | [],[],_=>⟨fun a h=>by simp at h,rfl⟩
 | p::ps,a::aO,h=>by
  obtain⟨ac,J⟩:=r1 ps aO h.2;refine⟨fun x hx=>?_,by simp[J]⟩;simp only[Gh,Gt] at hx;rcases hx with rfl|hx
  ·exact sL hV a5 U p a h.1
  ·exact ac x hx
 | [],_::_,h=>h.elim
 | _::_,[],h=>h.elim
theorem oV(ps:List (ByteArray×Bool))(aO:List cQ)(h:hN G V ps aO){f:List Atom}(O:Atom.chain (.sg [59]::f)):Atom.chain (hQ aO++.sg [59]::f):=by
 have d:Atom.chain (.sg [41]::.sg [59]::f):=cy (b3 (.inl (by decide))) O fun b O=>by
  simp at O;subst O;exact m1 _ (.inr (.inl rfl)) _ (.inr (.inr (.inl rfl)))
 obtain⟨ac,_⟩:=r1 hV a5 U ps aO h
 cases aO with
 | nil=>
  refine cy (b3 (.inl (by decide))) d fun b O=>?_
  exact Dn
 | cons a l=>
  have aa:=lY ((a::l).map eO) ac (by simp);show Atom.chain (Atom.sg [40]::((dH ((a::l).map eO)++[Atom.sg [41]])++Atom.sg [59]::f))
  rw[Gq];exact mY (.inl rfl) aa (ey aa (.inl rfl) d)
end
def kj(l:List Atom):Prop:=l≠[]∧∀a,l.getLast?=some a→∃c,a=.ws c
theorem kj.cons{x:Atom}(h:kj l):kj (x::l):=
 ⟨by simp,fun a aV=>rj (l:=[x]) h.2 h.1 (by simpa using aV)⟩
theorem kj.app(h:kj m):kj (l++m):=
 ⟨by have:=h.1;simp[this],fun a aV=>rj h.2 h.1 aV⟩
theorem kj.nl(h:∀a,l.getLast?=some a→∃c,a=.ws c):kj (.ws 10::l):=by
 refine⟨by simp,fun a aV=>?_⟩
 cases l with
 | nil=>simp at aV;exact⟨10,aV.symm⟩
 | cons x l=>exact h a (by rw[List.getLast?_cons_cons] at aV;exact aV)
theorem dx:∀(b:aj) (t:Nat) (a:Atom),(aT t b).getLast?=some a→∃c,a=.ws c
 | .nil,t,a,h=>by simp[aT] at h
 | .set v n e rest,t,a,h=>by
  unfold aT at h
  exact(kj.app (.app (.cons (.cons (.cons (.cons (.app (.cons (.nl (dx rest t)))))))))).2 a h
 | .call g n aO rest,t,a,h=>by
  unfold aT at h
  exact(kj.app (.app (.cons (.app (.cons (.nl (dx rest t))))))).2 a h
 | .lock u r rest,t,a,h=>by
  unfold aT at h
  exact(kj.app (.cons (.cons (.app (.cons (.nl (dx rest t))))))).2 a h
 | .ite e th el rest,t,a,h=>by
  unfold aT at h
  exact(kj.app (.cons (.cons (.app (.cons (.cons (.cons (.app (.app (.cons (.app (.nl (dx rest t))))))))))))).2 a h
 | .fj e th rest,t,a,h=>by
  unfold aT at h
  exact(kj.app (.cons (.cons (.app (.cons (.cons (.cons (.app (.app (.cons (.nl (dx rest t)))))))))))).2 a h
 | .ret rest,t,a,h=>by
  unfold aT at h;exact(kj.app (.cons (.cons (.nl (dx rest t))))).2 a h
structure mg(G:Env):Prop where
 af:∀m∈G.af,br m.name.data.toList=true
 params:∀p∈G.params,br p.1.data.toList=true
 funcs:∀f∈G.funcs,br f.1.data.toList=true∧f.2.length≤2
theorem i4{V:GS}{n:ByteArray}(h:du V)(hn:br n.data.toList=true):du (V++[n]):=by
 intro s hs;simp only[Gk,GH] at hs;rcases hs with hs|rfl
 ·exact h s hs
 ·exact hn
theorem cD{G:Env}(bR:mg G):∀(b:aj) (d t:Nat) (V T:GS),du V→ej G d V T b→Atom.chain (aT t b)
 | .nil,d,t,V,T,_,_=>trivial
 | .set v n e rest,d,t,V,T,hV,h=>by
  have a:(Atom.sg [59]).fi:=b3 (.inl (by decide));have f:(Atom.sg [61]).fi:=b3 (.inl (by decide));unfold aT
  cases v with
  | true=>
   have F:br n.data.toList=true∧n∉T∧e.src V 2∧ej G d (V++[n]) (T++[n]) rest:=by cases d<;>exact h
   have aa:=cD bR rest d t _ _ (i4 hV F.1) F.2.2.2;have av:=dO hV 2 e F.2.2.1
   exact(fA t).app (bQ (eN (by decide)) rfl (cH rfl (bQ (dn F.1) rfl (cH rfl (bQ f rfl (cH rfl (ey av (.inr (.inr (.inl rfl))) (bQ a rfl (cH rfl aa)))))))))
  | false=>
   have F:n∈V∧e.src V 2∧ej G d V T rest:=by cases d<;>exact h
   have aa:=cD bR rest d t _ _ hV F.2.2;have av:=dO hV 2 e F.2.1
   exact(fA t).app (bQ (dn (hV n F.1)) rfl (cH rfl (bQ f rfl (cH rfl (ey av (.inr (.inr (.inl rfl))) (bQ a rfl (cH rfl aa)))))))
 | .call g n aO rest,d,t,V,T,hV,h=>by
  have F:(∃ps,(n,ps)∈G.funcs∧hN G V ps aO)∧ej G d V T rest:=by cases d<;>exact h
  obtain⟨⟨ps,aw,has⟩,aX⟩:=F;have aa:=cD bR rest d t _ _ hV aX;have a:(Atom.sg [59]).fi:=b3 (.inl (by decide));have bb:=oV hV bR.af bR.params ps aO has (bQ a rfl (cH (c:=10) rfl aa));have bg:Atom.chain (.word n.data.toList::(hQ aO++(.sg [59]::.ws 10::aT t rest))):=hj (dn (bR.funcs _ aw).1) rfl bb;unfold aT
  cases g with
  | true=>exact(fA t).app (bQ (eN (by decide)) rfl (cH rfl bg))
  | false=>exact(fA t).app bg
 | .lock u r rest,d,t,V,T,hV,h=>by
  have F:pN G V r∧ej G d V T rest:=by cases d<;>exact h
  have aa:=cD bR rest d t _ _ hV F.2;have b6:=nF hV bR.af bR.params r F.1;have a:(Atom.sg [59]).fi:=b3 (.inl (by decide));unfold aT
  exact(fA t).app (bQ (eN (by cases u<;>decide)) rfl (cH rfl (ey b6 (.inr (.inr (.inl rfl))) (bQ a rfl (cH rfl aa)))))
 | .ite e th el rest,0,t,V,T,hV,h=>h.elim
 | .fj e th rest,0,t,V,T,hV,h=>h.elim
 | .ite e th el rest,d+1,t,V,T,hV,h=>by
  have j:=cD bR th d (t+1) _ _ hV h.2.1;have o:=cD bR el d (t+1) _ _ hV h.2.2.1;have aa:=cD bR rest (d+1) t _ _ hV h.2.2.2;have av:=dO hV 2 e h.1;have k:(Atom.sg [123]).fi:=b3 (.inl (by decide));have i:(Atom.sg [125]).fi:=b3 (.inl (by decide));have e1:gG (aT (t+1) th):=⟨j,dx th _⟩
  have e2:gG (aT (t+1) el):=⟨o,dx el _⟩
  have ce:Atom.chain (.ws 10::aT t rest):=cH rfl aa;have tail:Atom.chain (.sg [125]::((if el.isNil then [] else .ws 32::kw [101,108,115,101]::.ws 32::.sg [123]::.ws 10::(aT (t+1) el++(eJ t++[.sg [125]])))++(.ws 10::aT t rest))):=by
   have J:Atom.chain (.sg [125]::((.ws 32::kw [101,108,115,101]::.ws 32::.sg [123]::.ws 10::(aT (t+1) el++(eJ t++[.sg [125]])))++(.ws 10::aT t rest))):=by
    refine bQ i rfl (cH rfl (bQ (eN (by decide)) rfl (cH rfl (bQ k rfl (cH rfl ?_)))));show Atom.chain ((aT (t+1) el++(eJ t++[Atom.sg [125]]))++(Atom.ws 10::aT t rest))
    rw[Gq,Gq];exact e2.app ((fA t).app (bQ i rfl ce))
   split
   ·exact bQ i rfl ce
   ·exact J
  unfold aT
  exact(fA t).app (bQ (eN (by decide)) rfl (cH rfl (pa av.chain rfl (cH rfl (bQ k rfl (cH rfl (e1.app ((fA t).app tail))))))))
 | .fj e th rest,d+1,t,V,T,hV,h=>by
  have j:=cD bR th d (t+1) _ _ hV h.2.1;have aa:=cD bR rest (d+1) t _ _ hV h.2.2;have av:=dO hV 2 e h.1;have k:(Atom.sg [123]).fi:=b3 (.inl (by decide));have i:(Atom.sg [125]).fi:=b3 (.inl (by decide));have e1:gG (aT (t+1) th):=⟨j,dx th _⟩
  unfold aT
  exact(fA t).app (bQ (eN (by decide)) rfl (cH rfl (pa av.chain rfl (cH rfl (bQ k rfl (cH rfl (e1.app ((fA t).app (bQ i rfl (cH rfl aa))))))))))
 | .ret rest,d,t,V,T,hV,h=>by
  have F:ej G d V T rest:=by cases d<;>exact h
  have aa:=cD bR rest d t _ _ hV F;have a:(Atom.sg [59]).fi:=b3 (.inl (by decide));unfold aT;exact(fA t).app (hj (eN (by decide)) rfl (bQ a rfl (cH rfl aa)))
theorem ix:∀(k n:Nat),n<10 ^ (k+1)→(iw n).length≤k+1
 | k,n,h=>by
  rw[iw];split
  ·simp
  ·cases k with
   | zero=>simp at h;omega
   | succ k=>
    have:=ix k (n / 10) (by rw[Nat.div_lt_iff_lt_mul ad,←Nat.pow_succ];exact h);simp;omega
 termination_by k=>k
theorem dX(h:br s=true):s.length≤16:=by
 simp only[br,Gn,GK] at h;exact h.1.2
def eU(aO:List Atom):Nat:=(aS aO).length
theorem bq(aO f:List Atom):eU (aO++f)=eU aO+eU f:=by unfold eU;rw[a2,Gd]
theorem bh(a:Atom)(f:List Atom):eU (a::f)=a.bytes.length+eU f:=by unfold eU;rw[aX,Gd]
theorem ck:eU []=0:=rfl
theorem cw(c:UInt8)(aO:List Atom):Atom.count (.ws c::aO)=Atom.count aO:=rfl
theorem cK(c:List UInt8)(aO:List Atom):Atom.count (.word c::aO)=Atom.count aO+1:=rfl
theorem lT(c:List UInt8)(aO:List Atom):Atom.count (.num c::aO)=Atom.count aO+1:=rfl
theorem cb(c:List UInt8)(aO:List Atom):Atom.count (.sg c::aO)=Atom.count aO+1:=rfl
theorem dF(c:List UInt8)(aO:List Atom):Atom.count (kw c::aO)=Atom.count aO+1:=rfl
theorem count_nil:Atom.count []=0:=rfl
theorem d5(c:UInt8):(Atom.ws c).bytes.length=1:=rfl
theorem dW(c:List UInt8):(Atom.word c).bytes.length=c.length:=rfl
theorem fS(c:List UInt8):(kw c).bytes.length=c.length:=rfl
theorem qh(c:List UInt8):(Atom.num c).bytes.length=c.length:=rfl
theorem dI(c:List UInt8):(Atom.sg c).bytes.length=c.length:=rfl
def cE:Nat→Nat
 | 0=>1
 | d+1=>2*(cE d+2)+1
def bE:Nat→Nat
 | 0=>19
 | d+1=>2*(bE d+2)+4
theorem Af:∀d,1≤cE d
 | 0=>Gb _
 | d+1=>by unfold cE;omega
theorem sP:∀d,19≤bE d
 | 0=>Gb _
 | d+1=>by have:=sP d;unfold bE;omega
theorem l2(b:Bool)(aO:List Atom):Atom.count (par b aO)≤Atom.count aO+2∧eU (par b aO)≤eU aO+2:=by
 cases b
 ·exact⟨by simp[par],by simp[par]⟩
 ·simp only[par,if_true,cb,count_append,bh,bq,ck,dI,count_nil,Gp,Gw];omega
theorem Bg(op:Int):(f1 op).length≤2:=by
 unfold f1
 repeat' split
 all_goals decide
theorem cR{N:GS}(cj:du N):∀(d:Nat) (x:VE),x.src N d→Atom.count (b9 x)≤cE d∧eU (b9 x)≤bE d
 | d,.num n,h=>by
  have F:0≤n∧n<4611686018427387904:=by cases d<;>exact h
  have:=ix 18 n.toNat ad;have ac:=Af d;have J:=sP d;simp only[b9,lT,count_nil,bh,ck,qh]
  omega
 | d,.ga s,h=>by
  have F:s∈N:=by cases d<;>exact h
  have:=dX (cj s F);have ac:=Af d;have J:=sP d;simp only[b9,cK,count_nil,bh,ck,dW]
  omega
 | d,.loc _,h=>by cases d<;>exact h.elim
 | d,.hR _,h=>by cases d<;>exact h.elim
 | 0,.un _ _,h=>h.elim
 | 0,.bin _ _ _,h=>h.elim
 | d+1,.un op x,h=>by
  have aa:=cR cj d x h.2;have hp:=l2 (dk op (aU x) false) (b9 x);have hs:(if op=3 then [45] else [33]:List UInt8).length=1:=by split<;>rfl
  simp only[b9,cb,bh,dI,hs,cE,bE]
  omega
 | d+1,.bin op x y,h=>by
  have i:=cR cj d x h.2.1;have c:=cR cj d y h.2.2;have hp:=l2 (dk op (aU x) false) (b9 x);have bu:=l2 (dk op (aU y) true) (b9 y);have hs:=Bg op;simp only[b9,count_append,cw,cb,bq,bh,d5,dI,cE,bE];omega
section
variable {G:Env} {V:GS} (hV:du V) (bR:mg G)
include hV bR
theorem kZ(r:d2)(h:pN G V r):Atom.count (hh r)≤22∧eU (hh r)≤118:=by
 have hn:br r.name.data.toList=true:=by
  rcases h with⟨m,hm,he,_⟩|⟨hp,_⟩
  ·rw[←he];exact bR.af m hm
  ·exact bR.params _ hp
 have hl:=dX hn;unfold hh
 cases aJ:r.idx with
 | none=>
  exact wL
 | some e=>
  have hs:e.src V 2:=by
   exact Dh
  have aa:=cR hV 2 e hs;simp only[cE,bE] at aa;simp only[cK,cb,count_append,count_nil,bh,bq,ck,dW,dI,Gp,Gw];omega
theorem kY(p:ByteArray×Bool)(a:cQ)(h:Fs G V p a):Atom.count (eO a)≤23∧eU (eO a)≤124:=by
 cases a with
 | ex e=>
  have aa:=cR hV 2 e h.2;simp only[cE,bE] at aa;show Atom.count (b9 e)≤23∧eU (b9 e)≤124
  omega
 | mx r=>
  have aa:=kZ hV bR r h.2;simp only[eO,dF,cw,bh,fS,d5];have:e4.length=5:=rfl;omega
theorem my:∀(ps:List (ByteArray×Bool)) (aO:List cQ),hN G V ps aO→Atom.count (dH (aO.map eO))≤24*ps.length∧eU (dH (aO.map eO))≤126*ps.length
 | [],[],_=>⟨Gb _,Gb _⟩
 | [p],[a],h=>by
  have:=kY hV bR p a h.1;simp only[Gh,GC,dH,Gp,Gw]
  omega
 | p::q::ps,a::b::aO,h=>by
  have ac:=kY hV bR p a h.1;have aa:=my (q::ps) (b::aO) h.2;simp only[Gh] at aa;simp only[Gh,dH,count_append,cb,cw,bq,bh,dI,d5,Gp,Gw] at aa ⊢
  omega
 | [],_::_,h=>h.elim
 | _::_,[],h=>h.elim
 | [_],_::_::_,h=>h.2.elim
 | _::_::_,[_],h=>h.2.elim
theorem oW(ps:List (ByteArray×Bool))(aO:List cQ)(h:hN G V ps aO)(hp:ps.length≤2):Atom.count (hQ aO)≤50∧eU (hQ aO)≤254:=by
 have:=my hV bR ps aO h;simp only[hQ,cb,count_append,count_nil,bh,bq,ck,dI,Gp,Gw];omega
end
theorem f3(t:Nat):Atom.count (eJ t)=0∧eU (eJ t)=t:=by
 induction t with
 | zero=>exact⟨rfl,rfl⟩
 | succ t aa=>
  have e:eJ (t+1)=.ws 9::eJ t:=rfl;rw[e,cw,bh,d5];omega
theorem cF{G:Env}(bR:mg G):∀(b:aj) (d t:Nat) (V T:GS),du V→t+d≤8→ej G d V T b→Atom.count (aT t b)≤53*b.num∧eU (aT t b)≤400*b.num
 | .nil,d,t,V,T,_,_,_=>⟨Gb _,Gb _⟩
 | .set v n e rest,d,t,V,T,hV,ht,h=>by
  have aC:=f3 t
  cases v with
  | true=>
   have F:br n.data.toList=true∧n∉T∧e.src V 2∧ej G d (V++[n]) (T++[n]) rest:=by cases d<;>exact h
   have aa:=cF bR rest d t _ _ (i4 hV F.1) ht F.2.2.2;have av:=cR hV 2 e F.2.2.1;have hn:=dX F.1;simp only[cE,bE] at av;simp only[aT,if_true,count_append,dF,cw,cK,cb,count_nil,bq,bh,ck,fS,d5,dW,dI,aj.num,Gp,Gw]
   omega
  | false=>
   have F:n∈V∧e.src V 2∧ej G d V T rest:=by cases d<;>exact h
   have aa:=cF bR rest d t _ _ hV ht F.2.2;have av:=cR hV 2 e F.2.1;have hn:=dX (hV n F.1);simp only[cE,bE] at av;simp only[aT,GL,if_false,count_append,cw,cK,cb,count_nil,bq,bh,ck,d5,dW,dI,aj.num,Gp,Gw]
   omega
 | .call g n aO rest,d,t,V,T,hV,ht,h=>by
  have aC:=f3 t;have F:(∃ps,(n,ps)∈G.funcs∧hN G V ps aO)∧ej G d V T rest:=by cases d<;>exact h
  obtain⟨⟨ps,aw,has⟩,aX⟩:=F;have aa:=cF bR rest d t _ _ hV ht aX;have bb:=oW hV bR ps aO has (bR.funcs _ aw).2;have hn:=dX (bR.funcs _ aw).1;cases g<;>
  ·simp only[aT,GL,if_false,if_true,count_append,dF,cw,cK,cb,count_nil,bq,bh,ck,fS,d5,dW,dI,aj.num,Gp,Gw];simp only[] at hn
   omega
 | .lock u r rest,d,t,V,T,hV,ht,h=>by
  have aC:=f3 t;have F:pN G V r∧ej G d V T rest:=by cases d<;>exact h
  have aa:=cF bR rest d t _ _ hV ht F.2;have b6:=kZ hV bR r F.1;cases u<;>
  ·simp only[aT,GL,if_false,if_true,count_append,dF,cw,cb,bq,bh,fS,d5,dI,aj.num,Gp,Gw]
   omega
 | .ite e th el rest,0,t,V,T,hV,ht,h=>h.elim
 | .fj e th rest,0,t,V,T,hV,ht,h=>h.elim
 | .ite e th el rest,d+1,t,V,T,hV,ht,h=>by
  have aC:=f3 t;have j:=cF bR th d (t+1) _ _ hV ad h.2.1;have o:=cF bR el d (t+1) _ _ hV ad h.2.2.1;have aa:=cF bR rest (d+1) t _ _ hV ht h.2.2.2;have av:=cR hV 2 e h.1;simp only[cE,bE] at av;cases hn:el.isNil<;>
  ·simp only[aT,hn,GL,if_false,if_true,Gs,GG,count_append,dF,cw,cb,count_nil,bq,bh,ck,fS,d5,dI,aj.num,Gp,Gw]
   omega
 | .fj e th rest,d+1,t,V,T,hV,ht,h=>by
  have aC:=f3 t;have j:=cF bR th d (t+1) _ _ hV ad h.2.1;have aa:=cF bR rest (d+1) t _ _ hV ht h.2.2;have av:=cR hV 2 e h.1;simp only[cE,bE] at av;simp only[aT,count_append,dF,cw,cb,bq,bh,fS,d5,dI,aj.num,Gp,Gw]
  omega
 | .ret rest,d,t,V,T,hV,ht,h=>by
  have aC:=f3 t;have F:ej G d V T rest:=by cases d<;>exact h
  have aa:=cF bR rest d t _ _ hV ht F;simp only[aT,count_append,dF,cw,cb,bq,bh,fS,d5,dI,aj.num,Gp,Gw];omega
def gF(n:Int):List Atom:=if n<0 then [.sg [45],.num (iw n.natAbs)] else [.num (iw n.toNat)]
def gD(g:ByteArray×Int):List Atom:=kw [118,97,114]::.ws 32::.word g.1.data.toList::((if g.2=0 then [] else .ws 32::.sg [61]::.ws 32::gF g.2)++[.sg [59],.ws 10])
def gE(m:bF):List Atom:=kw (if m.re then [114,109,117,116,101,120] else e4)::.ws 32::.word m.name.data.toList::((if 0<m.size then .sg [91]::(gF m.size++[.sg [93]]) else [])++[.sg [59],.ws 10])
def fO(p:ByteArray×Bool):List Atom:=if p.2 then [kw e4,.ws 32,.word p.1.data.toList] else [.word p.1.data.toList]
def gC(f:aG):List Atom:=kw [102,117,110,99]::.ws 32::.word f.name.data.toList::.sg [40]::(dH (f.params.map fO)++(.sg [41]::.ws 32::.sg [123]::.ws 10::(aT 1 f.body++[.sg [125],.ws 10])))
def eP(p:bC):List Atom:=p.globals.flatMap gD++(p.af.flatMap gE++p.funcs.flatMap gC)
def eD(p:bC):List ByteArray:=p.globals.map (·.1)
def a5(p:bC):List ByteArray:=eD p++p.af.map (·.name)++p.funcs.map (·.name)
def sigs(p:bC):List (ByteArray×List (ByteArray×Bool)):=p.funcs.map fun f=>(f.name,f.params)
def gL(p:bC)(f:aG):Env:=⟨p.af,f.params,sigs p⟩
def cc(ps:List (ByteArray×Bool)):List ByteArray:=(ps.filter fun q=>!q.2).map (·.1)
structure Ga(p:bC)(f:aG):Prop where
 params:∀q∈f.params,br q.1.data.toList=true
 ir:f.params.length≤2
 fresh:(a5 p++f.params.map (·.1)).Nodup
 body:ej (gL p f) 4 (eD p++cc f.params) (a5 p++f.params.map (·.1)) f.body
structure mU(p:bC):Prop where
 names:∀s∈a5 p,br s.data.toList=true
 nodup:(a5 p).Nodup
 mB:p.globals.length≤16
 ti:p.af.length≤12
 AT:p.funcs.length≤16
 inits:∀g∈p.globals,-9223372036854775807≤g.2∧g.2≤9223372036854775807
 eI:∀m∈p.af,0≤m.size∧m.size≤64∧(m.re=true→m.size=0)
 funcs:∀f∈p.funcs,Ga p f
 main:∃(i:Nat) (f:aG),p.funcs[i]?=some f∧f.name=⟨#[109,97,105,110]⟩∧f.params=[]
 ir:(p.funcs.map fun f=>f.body.num).sum≤64
theorem mU.env(h:mU p){f:aG}(aw:f∈p.funcs):mg (gL p f) where
 af:=fun m hm=>h.names _ (by simp only[a5,Gk,GD];exact .inl (.inr ⟨m,hm,rfl⟩))
 params:=(h.funcs f aw).params
 funcs:=fun g aM=>by
  obtain⟨k,ap,rfl⟩:=GD.1 aM;exact⟨h.names _ (by simp only[a5,Gk,GD];exact .inr ⟨k,ap,rfl⟩),(h.funcs k ap).ir⟩
theorem mU.vars(h:mU p){f:aG}(aw:f∈p.funcs):du (eD p++cc f.params):=by
 intro s hs;rcases Gk.1 hs with hs|hs
 ·exact h.names _ (by simp only[a5,Gk];exact .inl (.inl hs))
 ·obtain⟨q,bu,rfl⟩:=GD.1 hs;exact(h.funcs f aw).params q (List.mem_filter.1 bu).1
theorem iZ{α:Type}(f:α→List Atom):∀(l:List α),(∀x∈l,gG (f x))→gG (l.flatMap f)
 | [],_=>⟨trivial,fun a h=>by simp at h⟩
 | x::l,h=>by
  have aa:=iZ f l fun y a3=>h y (by simp[a3]);have hx:=h x (by simp);refine⟨hx.app aa.1,fun a aV=>?_⟩;rw[Gx,List.getLast?_append] at aV
  cases hl:(l.flatMap f).getLast? with
  | none=>rw[hl] at aV;exact hx.2 a (by simpa using aV)
  | some b=>
   rw[hl] at aV;simp at aV;subst aV;exact aa.2 b hl
theorem i0{α:Type}(f:α→List Atom)(g:α→Nat)(c k:Nat):∀(l:List α),(∀x∈l,Atom.count (f x)≤c+53*g x∧eU (f x)≤k+400*g x)→
  Atom.count (l.flatMap f)≤c*l.length+53*(l.map g).sum∧eU (l.flatMap f)≤k*l.length+400*(l.map g).sum
 | [],_=>⟨by simp[count_nil],by simp[ck]⟩
 | x::l,h=>by
  have aa:=i0 f g c k l fun y a3=>h y (by simp[a3]);have hx:=h x (by simp);simp only[Gx,count_append,bq,Gp,Gh,List.sum_cons,Nat.mul_add,Nat.mul_one];omega
theorem Ev{α:Type}(l:List α):(l.map fun _=>0).sum=0:=by induction l<;>simp_all
theorem nG(n:Int)(h:-9223372036854775807≤n∧n≤9223372036854775807):ki (gF n)∧Atom.count (gF n)≤2∧eU (gF n)≤20:=by
 unfold gF;split
 ·have aM:=oj (n:=n.natAbs) ad;have hl:=ix 18 n.natAbs ad;refine⟨Bu (.inl rfl) ⟨aM,⟨_,rfl,.inl ⟨rfl,aM⟩⟩,⟨_,rfl,.inl rfl⟩⟩,?_,?_⟩
  ·simp only[cb,lT,count_nil];omega
  ·simp only[bh,ck,dI,qh,Gp,Gw];omega
 ·have aM:=oj (n:=n.toNat) ad;have hl:=ix 18 n.toNat ad;refine⟨⟨aM,⟨_,rfl,.inl ⟨rfl,aM⟩⟩,⟨_,rfl,.inl rfl⟩⟩,?_,?_⟩
  ·simp only[lT,count_nil];omega
  ·simp only[bh,ck,qh];omega
theorem Ct:Atom.chain [.sg [59],.ws 10]:=bQ (b3 (.inl (by decide))) rfl rfl
theorem o6(g:ByteArray×Int)(hn:br g.1.data.toList=true)(h:-9223372036854775807≤g.2∧g.2≤9223372036854775807):gG (gD g)∧Atom.count (gD g)≤6∧eU (gD g)≤50:=by
 have hl:=dX hn;obtain⟨bv,hc,O⟩:=nG g.2 h;have ap:(kw [118,97,114]).fi:=eN (by decide);refine⟨⟨?_,fun a aV=>?_⟩,?_⟩
 ·unfold gD;refine bQ ap rfl (cH rfl ?_);split
  ·exact hj (dn hn) rfl Ct
  ·exact bQ (dn hn) rfl (cH rfl (bQ (b3 (.inl (by decide))) rfl (cH rfl (ey bv (.inr (.inr (.inl rfl))) Ct))))
 ·unfold gD at aV;exact wz
 ·unfold gD;have aS:([118,97,114]:List UInt8).length=3:=rfl;split
  ·simp only[GG,dF,cw,cK,cb,count_nil,bh,ck,fS,d5,dW,dI,Gp,Gw];omega
  ·simp only[Gs,dF,cw,cK,cb,count_append,count_nil,bh,bq,ck,fS,d5,dW,dI,Gp,Gw];omega
theorem o7(m:bF)(hn:br m.name.data.toList=true)(h:0≤m.size∧m.size≤64):gG (gE m)∧Atom.count (gE m)≤7∧eU (gE m)≤50:=by
 have hl:=dX hn;obtain⟨bv,hc,O⟩:=nG m.size ad;have ap:(kw (if m.re then [114,109,117,116,101,120] else e4)).fi:=eN (by split<;>decide);have bU:(if m.re then [114,109,117,116,101,120] else e4:List UInt8).length≤6:=by split<;>decide
 refine⟨⟨?_,fun a aV=>?_⟩,?_⟩
 ·unfold gE;refine bQ ap rfl (cH rfl ?_);split
  ·simp only[Gs,Gq];refine hj (dn hn) rfl (mY (.inr rfl) bv (ey bv (.inr (.inl rfl)) (cy (b3 (.inl (by decide))) Ct fun b O=>?_)));simp at O;subst O;exact m1 _ (.inr (.inr rfl)) _ (.inr (.inr (.inl rfl)))
  ·exact hj (dn hn) rfl Ct
 ·unfold gE at aV;exact wz
 ·unfold gE;generalize (if m.re then [114,109,117,116,101,120] else e4:List UInt8)=s at *;split
  ·simp only[Gs,dF,cw,cK,cb,count_append,count_nil,bh,bq,ck,fS,d5,dW,dI,Gp,Gw];omega
  ·simp only[GG,dF,cw,cK,cb,count_nil,bh,ck,fS,d5,dW,dI,Gp,Gw];omega
theorem lR(p:ByteArray×Bool)(hn:br p.1.data.toList=true):ki (fO p)∧Atom.count (fO p)≤2∧eU (fO p)≤22:=by
 have hl:=dX hn;have hw:=dn hn;have ap:(kw e4).fi:=eN (by decide);have cr:e4.length=5:=rfl;unfold fO;split
 ·refine⟨⟨bQ ap rfl (cH rfl hw),⟨_,rfl,.inl ⟨rfl,ap⟩⟩,⟨_,rfl,.inl rfl⟩⟩,?_⟩;simp only[dF,cw,cK,count_nil,bh,ck,fS,d5,dW];omega
 ·refine⟨⟨hw,⟨_,rfl,.inl ⟨rfl,hw⟩⟩,⟨_,rfl,.inl rfl⟩⟩,?_⟩;exact wL
theorem mz:∀(l:List (ByteArray×Bool)),(∀q∈l,br q.1.data.toList=true)→Atom.count (dH (l.map fO))≤3*l.length∧eU (dH (l.map fO))≤24*l.length
 | [],_=>⟨Gb _,Gb _⟩
 | [p],h=>by
  have:=(lR p (h p (by simp))).2;simp only[Gh,GC,dH,Gp,Gw]
  omega
 | p::q::l,h=>by
  have ac:=(lR p (h p (by simp))).2;have aa:=mz (q::l) fun x hx=>h x (by simp[hx]);simp only[Gh] at aa;simp only[Gh,dH,count_append,cb,cw,bq,bh,dI,d5,Gp,Gw] at aa ⊢;omega
theorem o5(hp:mU p){f:aG}(aw:f∈p.funcs):gG (gC f)∧Atom.count (gC f)≤13+53*f.body.num∧eU (gC f)≤80+400*f.body.num:=by
 have hF:=hp.funcs f aw;have hn:br f.name.data.toList=true:=hp.names _ (by simp only[a5,Gk,GD];exact .inr ⟨f,aw,rfl⟩);have hl:=dX hn;have hc:=cD (hp.env aw) f.body 4 1 _ _ (hp.vars aw) hF.body;have ap:=cF (hp.env aw) f.body 4 1 _ _ (hp.vars aw) ad hF.body;have bu:=mz f.params hF.params;have E:=hF.ir;have k:(Atom.sg [123]).fi:=b3 (.inl (by decide));have i:Atom.chain [.sg [125],.ws 10]:=bQ (b3 (.inl (by decide))) rfl rfl;have e1:gG (aT 1 f.body):=⟨hc,dx f.body 1⟩
 have tail:Atom.chain (.sg [41]::.ws 32::.sg [123]::.ws 10::(aT 1 f.body++[.sg [125],.ws 10])):=
  bQ (b3 (.inl (by decide))) rfl (cH rfl (bQ k rfl (cH rfl (e1.app i))))
 refine⟨⟨?_,fun a aV=>?_⟩,?_⟩
 ·unfold gC;refine bQ (eN (by decide)) rfl (cH rfl (hj (dn hn) rfl ?_))
  cases bi:f.params with
  | nil=>
   refine cy (b3 (.inl (by decide))) tail fun b O=>?_
   exact Dn
  | cons q l=>
   have hs:ki (dH ((q::l).map fO)):=lY _ (fun a aV=>by
    obtain⟨x,hx,rfl⟩:=GD.1 aV;exact(lR x (hF.params x (by rw[bi];exact hx))).1) (by simp)
   exact mY (.inl rfl) hs (ey hs (.inl rfl) tail)
 ·unfold gC at aV;exact(kj.cons (.cons (.cons (.cons (.app (.cons (.cons (.cons (.cons (.app (.cons (.nl (l:=[]) fun a h=>by simp at h)))))))))))).2 a aV
 ·have bo:([102,117,110,99]:List UInt8).length=4:=rfl;simp only[gC,dF,cw,cK,cb,count_append,count_nil,bh,bq,ck,fS,d5,dW,dI,Gp,Gw];omega
theorem rE(hp:mU p):(db (aS (eP p))).2.2=0:=by
 have aM:∀g∈p.globals,br g.1.data.toList=true:=fun g h=>hp.names _ (by simp only[a5,eD,Gk,GD];exact .inl (.inl ⟨g,h,rfl⟩));have hm:∀m∈p.af,br m.name.data.toList=true:=fun m h=>hp.names _ (by simp only[a5,Gk,GD];exact .inl (.inr ⟨m,h,rfl⟩));have c1:=iZ gD p.globals fun g h=>(o6 g (aM g h) (hp.inits g h)).1;have c2:=iZ gE p.af fun m h=>(o7 m (hm m h) ⟨(hp.eI m h).1,(hp.eI m h).2.1⟩).1;have c3:=iZ gC p.funcs fun f h=>(o5 hp h).1;have cm:=i0 gD (fun _=>0) 6 50 p.globals fun g h=>by have:=(o6 g (aM g h) (hp.inits g h)).2;omega
 have bZ:=i0 gE (fun _=>0) 7 50 p.af fun m h=>by have:=(o7 m (hm m h) ⟨(hp.eI m h).1,(hp.eI m h).2.1⟩).2;omega
 have cz:=i0 gC (fun f=>f.body.num) 13 80 p.funcs fun f h=>(o5 hp h).2;rw[Ev] at cm bZ;have n1:=hp.mB;have bl:=hp.ti;have cn:=hp.AT;have a:=hp.ir;have hlen:(aS (eP p)).length≤262144:=by
  have:eU (eP p)=eU (p.globals.flatMap gD)+(eU (p.af.flatMap gE)+eU (p.funcs.flatMap gC)):=by unfold eP;rw[bq,bq]
  unfold eU at this cm bZ cz;omega
 unfold db;rw[if_neg ad];refine hz (eP p) _ _ [] ?_ (Nat.lt_succ_self _) ?_
 ·exact c1.app (c2.app c3.1)
 ·unfold eP;rw[count_append,count_append];simp only[Gw];omega
end Go.Proofs.YtjhgbdckgkppnaaGreat
