/- Part 6 of the proof. No condition of its own. -/
import Derived.Test.YtnhhdaggkiomoaaGreatQ05
namespace Go.Proofs.YtnhhdaggkiomoaaGreat
open Go.RowKit Go.Proofs.Tryz
set_option maxRecDepth 1000000
set_option maxHeartbeats 25600000
set_option linter.unusedVariables false
variable{a:Atom}{l m:List Atom}{s:List UInt8}{c:UInt8}{p:bM}
def jr(n:Nat):List UInt8:=if n<10 then [UInt8.ofNat (48+n)] else jr (n / 10)++[UInt8.ofNat (48+n % 10)]
 termination_by n
theorem mq(d:Nat)(h:d<10):(UInt8.ofNat (48+d)).toNat=48+d:=by simp;omega
theorem tB(n:Nat):(jr n).all bC=true∧∃c l,jr n=c::l:=by
 induction n using Nat.strongRecOn with
 | _ n ao=>
  rw[jr];split
  ·rename_i h;refine⟨?_,_,_,rfl⟩;simp only[List.all_cons,List.all_nil,Bool.and_true,bC,mq n h,KS,Ll];omega
  ·obtain⟨ac,c,l,av⟩:=ao (n / 10) ad;refine⟨?_,c,l++[UInt8.ofNat (48+n % 10)],by rw[av];rfl⟩;simp only[List.all_append,ac,List.all_cons,List.all_nil,Bool.and_true,Bool.true_and,bC,mq (n % 10) ad,KS,Ll];omega
theorem rJ:∀(b7 c8:List UInt8) (n:Int),0≤n→b7.all bC=true→iI n (b7++c8)=if iI n b7<0 then -1 else iI (iI n b7) c8
 | [],c8,n,hn,_=>by
  have h0:iI n []=n:=rfl
  rw[Lh,h0,if_neg ad]
 | c::b7,c8,n,hn,h=>by
  simp only[List.all_cons,KS] at h;have hd:48≤c.toNat:=by have:=h.1;simp only[bC,KS,Ll] at this;exact this.1
  simp only[KV,iI];split
  ·simp
  ·exact rJ b7 c8 _ ad h.2
theorem yA(n:Nat)(h:n≤9223372036854775807):p9 (jr n)=n:=by
 unfold p9
 induction n using Nat.strongRecOn with
 | _ n ao=>
  rw[jr];split
  ·rename_i h;simp only[iI,mq n h];rw[if_neg ad];omega
  ·have i:=ao (n / 10) ad ad;rw[rJ _ _ _ ad (tB _).1,i,if_neg ad];simp only[iI,mq (n % 10) ad];rw[if_neg ad];omega
def Atom.last(a1:List Atom):Option Atom:=a1.getLast?
theorem ep:∀(a1 f:List Atom),Atom.chain a1→Atom.chain f→(∀a b,a1.getLast?=some a→f.head?=some b→a.fits b)→Atom.chain (a1++f)
 | [],f,_,O,_=>O
 | [a],[],bx,_,_=>bx
 | [a],b::f,bx,O,J=>⟨bx,J a b rfl rfl,O⟩
 | a::r::a1,f,bx,O,J=>by
  have ao:=ep (r::a1) f bx.2.2 O (fun x y hx bb=>J x y (by rw[List.getLast?_cons_cons];exact hx) bb);exact⟨bx.1,bx.2.1,ao⟩
theorem count_append:∀(a1 f:List Atom),Atom.count (a1++f)=Atom.count a1+Atom.count f
 | [],f=>by simp[Atom.count]
 | a::a1,f=>by
  have ao:=count_append a1 f;cases a<;>simp only[KV,Atom.count,ao]<;>omega
def aV(a1:List Atom):List UInt8:=a1.flatMap Atom.bytes
theorem bf(a1 f:List Atom):aV (a1++f)=aV a1++aV f:=List.flatMap_append
theorem a5(a:Atom)(f:List Atom):aV (a::f)=a.bytes++aV f:=Lb
theorem oY(c:UInt8)(b:Atom):(Atom.ws c).fits b:=⟨fun h=>by simp[Atom.km] at h,fun s h=>by cases h⟩
theorem oJ(a:Atom)(c:UInt8)(h:oX c=true):a.fits (.ws c):=by
 refine⟨fun _=>rfl,fun s _ _ d hd=>?_⟩;simp only[Atom.head,Lj] at hd;subst hd;have key:∀s∈eL,∀d:UInt8,(d=32∨d=9∨d=10∨d=13)→(s++[d])∉fq∧¬(s=[47]∧d=47):=by
  intro s hs d hd;rcases hd with rfl|rfl|rfl|rfl<;>revert s<;>decide
 refine key s (by assumption) c ?_;simp only[oX,Bool.or_eq_true,beq_iff_eq] at h;rcases h with((h|h)|h)|h<;>simp[h]
theorem xo(a b:Atom)(bx:a.km=true)(O:b.km=false):a.fits b:=⟨fun _=>O,fun s h=>by subst h;simp[Atom.km] at bx⟩
def s6(a:Atom):Prop:=a.km=true∧a.fV∨a=.sg [45]∨a=.sg [33]∨a=.sg [40]
def GH(a:Atom):Prop:=a.km=true∨a=.sg [41]∨a=.sg [93]
theorem Fg(a:Atom)(h:a.km=true)(a2:a.fV)(c:UInt8)(hc:a.head=some c):cd c=true:=by
 cases a with
 | ws _=>simp[Atom.km] at h
 | sg _=>simp[Atom.km] at h
 | word s=>
  obtain⟨⟨d,l,rfl,ac,_⟩,_⟩:=a2;simp only[Atom.head,List.head?_cons,Lj] at hc;subst hc
  simp[cd,ac]
 | num s=>
  obtain⟨⟨d,l,rfl⟩,ac,_⟩:=a2;simp only[Atom.head,List.head?_cons,Lj] at hc;subst hc;simp only[List.all_cons,KS] at ac;simp[cd,ac.1]
theorem nA(s:List UInt8)(hs:s=[45]∨s=[33]∨s=[40]∨s=[91])(b:Atom)(O:s6 b):(Atom.sg s).fits b:=by
 refine⟨fun h=>by simp[Atom.km] at h,fun t ht _ c hc=>?_⟩;injection ht with ht;subst ht;have Z:cd c=true∨c=45∨c=33∨c=40:=by
  rcases O with⟨ac,av⟩|rfl|rfl|rfl
  ·exact .inl (Fg b ac av c hc)
  all_goals simp[Atom.head] at hc;subst hc;simp
 have bf:c≠61∧c≠38∧c≠124∧c≠47:=by
  rcases Z with h|rfl|rfl|rfl
  ·refine⟨?_,?_,?_,?_⟩<;>(rintro rfl;revert h;decide)
  all_goals decide
 rcases hs with rfl|rfl|rfl|rfl<;>simp[fq,bf]
theorem oH(a:Atom)(bx:GH a)(s:List UInt8)(hs:s=[41]∨s=[93]∨s=[59]∨s=[44]):a.fits (.sg s):=by
 rcases bx with h|rfl|rfl
 ·exact xo _ _ h rfl
 all_goals
  refine⟨fun h=>by simp[Atom.km] at h,fun t ht _ c hc=>?_⟩;injection ht with ht;subst ht;rcases hs with rfl|rfl|rfl|rfl<;>(simp[Atom.head] at hc;subst hc;decide)
def a9:VE→Int
 | .num _=>1
 | .g0 _=>2
 | .loc _=>18
 | .iC _=>19
 | .un op _=>op
 | .bin op _ _=>op
def cW(op:Int):Int:=if op=17 then 0 else if op=16 then 1 else if 10≤op∧op≤15 then 2 else if op=8∨op=9 then 3 else if 5≤op∧op≤7 then 4 else if op=3∨op=4 then 5 else 6
def dD(op arg:Int)(second:Bool):Bool:=decide (cW arg<cW op) || (cW arg == cW op && second)
def gQ(op:Int):List UInt8:=
 if op=5 then [42] else if op=6 then [47] else if op=7 then [37] else if op=8 then [43] else if op=9 then [45] else if op=10 then [60] else if op=11 then [60,61]
 else if op=12 then [62] else if op=13 then [62,61] else if op=14 then [61,61] else if op=15 then [33,61] else if op=16 then [38,38] else [124,124]
def par(b:Bool)(a1:List Atom):List Atom:=if b then .sg [40]::(a1++[.sg [41]]) else a1
def cn:VE→List Atom
 | .num n=>[.num (jr n.toNat)]
 | .g0 s=>[.word s.data.toList]
 | .loc _=>[]
 | .iC _=>[]
 | .un op x=>.sg (if op=3 then [45] else [33])::par (dD op (a9 x) false) (cn x)
 | .bin op x y=>par (dD op (a9 x) false) (cn x)++(.ws 32::.sg (gQ op)::.ws 32::par (dD op (a9 y) true) (cn y))
def VE.src(N:Lt):Nat→VE→Prop
 | _,.num n=>0≤n∧n<4611686018427387904
 | _,.g0 s=>s∈N
 | _,.loc _=>False
 | _,.iC _=>False
 | 0,.un _ _=>False
 | 0,.bin _ _ _=>False
 | d+1,.un op x=>(op=3∨op=4)∧VE.src N d x
 | d+1,.bin op x y=>(5≤op∧op≤17)∧VE.src N d x∧VE.src N d y
def dJ(N:Lt):Prop:=∀s∈N,bF s.data.toList=true
structure lg(a1:List Atom):Prop where
 chain:Atom.chain a1
 first:∃a,a1.head?=some a∧s6 a
 last:∃a,a1.getLast?=some a∧GH a
theorem getLast_append{a1 f:List Atom}(h:f.getLast?=some a):(a1++f).getLast?=some a:=by
 rw[List.getLast?_append,h];rfl
theorem head_append{a1 f:List Atom}(h:a1.head?=some a):(a1++f).head?=some a:=by
 rw[List.head?_append,h];rfl
theorem cR{a1:List Atom}(bx:a.fV)(h:Atom.chain a1)(J:∀b,a1.head?=some b→a.fits b):Atom.chain (a::a1):=
 ep [a] a1 bx h fun x b hx O=>by
  simp at hx;subst hx;exact J b O
theorem ck(h:s∈eL∨s∈fq):(Atom.sg s).fV:=h.symm
theorem lg.par{a1:List Atom}(h:lg a1)(b:Bool):lg (par b a1):=by
 cases b
 ·exact h
 ·obtain⟨a,bx,hs⟩:=h.first;obtain⟨z,bt,he⟩:=h.last;refine⟨?_,⟨_,rfl,.inr (.inr (.inr rfl))⟩,⟨.sg [41],?_,.inr (.inl rfl)⟩⟩
  ·refine cR (ck (.inl (by decide))) (ep _ _ h.chain (ck (.inl (by decide))) fun x y hx bb=>?_) fun y bb=>?_
   ·rw[bt] at hx;injection hx with hx;subst hx;simp at bb;subst bb;exact oH _ he _ (.inl rfl)
   ·rw[head_append bx] at bb;injection bb with bb;subst bb;exact nA _ (.inr (.inr (.inl rfl))) _ hs
  ·show (Atom.sg [40]::(a1++[Atom.sg [41]])).getLast?=some (.sg [41])
   rw[←List.cons_append];exact getLast_append rfl
theorem wG(op:Int):gQ op∈eL∨gQ op∈fq:=by
 unfold gQ
 repeat' split
 all_goals first|exact .inl (by decide)|exact .inr (by decide)
theorem dG(h:bF s=true):(Atom.word s).fV:=by
 cases s with
 | nil=>simp[bF] at h
 | cons c l=>
  simp only[bF,KS,Ll] at h;exact⟨⟨c,l,rfl,h.1.1.1,h.1.1.2⟩,.inr h.1.2⟩
theorem qb{n:Nat}(h:n≤9223372036854775807):(Atom.num (jr n)).fV:=by
 obtain⟨ac,av⟩:=tB n;exact⟨av,ac,by rw[yA n h];omega⟩
theorem EB{a1:List Atom}(hs:s=[45]∨s=[33])(h:lg a1):lg (.sg s::a1):=by
 obtain⟨a,bx,co⟩:=h.first;obtain⟨z,bt,he⟩:=h.last;refine⟨cR (ck (.inl (by rcases hs with rfl|rfl<;>decide))) h.chain fun b O=>?_,⟨_,rfl,by rcases hs with rfl|rfl<;>simp[s6]⟩,⟨z,?_,he⟩⟩
 ·rw[bx] at O;injection O with O;subst O;exact nA _ (by rcases hs with rfl|rfl<;>simp) _ co
 ·show ([Atom.sg s]++a1).getLast?=some z
  exact getLast_append bt
theorem ek{N:Lt}(hN:dJ N):∀(d:Nat) (x:VE),x.src N d→lg (cn x)
 | d,.num n,h=>by
  have F:0≤n∧n<4611686018427387904:=by cases d<;>exact h
  have a2:=qb (n:=n.toNat) ad
  exact⟨a2,⟨_,rfl,.inl ⟨rfl,a2⟩⟩,⟨_,rfl,.inl rfl⟩⟩
 | d,.g0 s,h=>by
  have F:s∈N:=by cases d<;>exact h
  have a2:=dG (hN s F)
  exact⟨a2,⟨_,rfl,.inl ⟨rfl,a2⟩⟩,⟨_,rfl,.inl rfl⟩⟩
 | d,.loc _,h=>by cases d<;>exact h.elim
 | d,.iC _,h=>by cases d<;>exact h.elim
 | 0,.un _ _,h=>h.elim
 | 0,.bin _ _ _,h=>h.elim
 | d+1,.un op x,h=>by
  unfold cn
  exact EB (by split<;>simp) ((ek hN d x h.2).par (dD op (a9 x) false))
 | d+1,.bin op x y,h=>by
  have i:=(ek hN d x h.2.1).par (dD op (a9 x) false);have c:=(ek hN d y h.2.2).par (dD op (a9 y) true);unfold cn;generalize par (dD op (a9 x) false) (cn x)=a1 at *;generalize par (dD op (a9 y) true) (cn y)=f at *;obtain⟨a,bx,co⟩:=i.first;obtain⟨z,bt,he⟩:=c.last;refine⟨ep _ _ i.chain ?_ ?_,⟨a,head_append bx,co⟩,⟨z,getLast_append ?_,he⟩⟩
  ·refine cR rfl (cR (ck (wG op)) (cR rfl c.chain fun b _=>oY _ b) fun b O=>?_) fun b _=>oY _ b;simp at O;subst O;exact oJ _ _ rfl
  ·intro x y _ bb;simp at bb;subst bb;exact oJ _ _ rfl
  ·show ([Atom.ws 32,Atom.sg (gQ op),Atom.ws 32]++f).getLast?=some z
   exact getLast_append bt
structure Env where
 af:List bI
 params:List (ByteArray×Bool)
 funcs:List (ByteArray×List (ByteArray×Bool))
def rX(G:Env)(V:Lt)(r:eO):Prop:=
 (∃m∈G.af,m.name=r.name∧(0<m.size→∃e,r.idx=some e∧e.src V 2)∧(¬0<m.size→r.idx=none))∨((r.name,true)∈G.params∧r.idx=none)
def IY(G:Env)(V:Lt)(p:ByteArray×Bool):dn→Prop
 | .mx r=>p.2=true∧rX G V r
 | .ex e=>p.2=false∧e.src V 2
def iN(G:Env)(V:Lt):List (ByteArray×Bool)→List dn→Prop
 | [],[]=>True
 | p::ps,a::a1=>IY G V p a∧iN G V ps a1
 | _,_=>False
def e4(G:Env):(d:Nat)→(V T:Lt)→an→Prop
 | _,_,_,.nil=>True
 | d,V,T,.set true n e rest=>bF n.data.toList=true∧n∉T∧e.src V 2∧e4 G d (V++[n]) (T++[n]) rest
 | d,V,T,.set false n e rest=>n∈V∧e.src V 2∧e4 G d V T rest
 | d,V,T,.call _ n a1 rest=>(∃ps,(n,ps)∈G.funcs∧iN G V ps a1)∧e4 G d V T rest
 | d,V,T,.lock _ r rest=>rX G V r∧e4 G d V T rest
 | 0,_,_,.ite ..=>False
 | 0,_,_,.gv ..=>False
 | d+1,V,T,.ite e th el rest=>e.src V 2∧e4 G d V T th∧e4 G d V T el∧e4 G (d+1) V T rest
 | d+1,V,T,.gv e th rest=>e.src V 2∧e4 G d V T th∧e4 G (d+1) V T rest
 | d,V,T,.ret rest=>e4 G d V T rest
def an.isNil:an→Bool
 | .nil=>true
 | _=>false
def an.num:an→Nat
 | .nil=>0
 | .set _ _ _ rest=>rest.num+1
 | .call _ _ _ rest=>rest.num+1
 | .lock _ _ rest=>rest.num+1
 | .ite _ th el rest=>th.num+el.num+rest.num+1
 | .gv _ th rest=>th.num+rest.num+1
 | .ret rest=>rest.num+1
def kw(s:List UInt8):Atom:=.word s
def iv(r:eO):List Atom:=.word r.name.data.toList::(match r.idx with|none=>[]|some e=>.sg [91]::(cn e++[.sg [93]]))
def fM:List UInt8:=[109,117,116,101,120]
def fC:dn→List Atom
 | .mx r=>kw fM::.ws 32::iv r
 | .ex e=>cn e
def dX:List (List Atom)→List Atom
 | []=>[]
 | [a]=>a
 | a::b::l=>a++(.sg [44]::.ws 32::dX (b::l))
def iT(a1:List dn):List Atom:=.sg [40]::(dX (a1.map fC)++[.sg [41]])
def fx(n:Nat):List Atom:=List.replicate n (.ws 9)
def aW:Nat→an→List Atom
 | _,.nil=>[]
 | t,.set v n e rest=>fx t++((if v then [kw [118,97,114],.ws 32] else [])++(.word n.data.toList::.ws 32::.sg [61]::.ws 32::(cn e++(.sg [59]::.ws 10::aW t rest))))
 | t,.call g n a1 rest=>fx t++((if g then [kw [103,111],.ws 32] else [])++(.word n.data.toList::(iT a1++(.sg [59]::.ws 10::aW t rest))))
 | t,.lock u r rest=>fx t++(kw (if u then [117,110,108,111,99,107] else [108,111,99,107])::.ws 32::(iv r++(.sg [59]::.ws 10::aW t rest)))
 | t,.ite e th el rest=>fx t++(kw [105,102]::.ws 32::(cn e++(.ws 32::.sg [123]::.ws 10::(aW (t+1) th++(fx t++(.sg [125] ::
   ((if el.isNil then [] else .ws 32::kw [101,108,115,101]::.ws 32::.sg [123]::.ws 10::(aW (t+1) el++(fx t++[.sg [125]])))++(.ws 10::aW t rest))))))))
 | t,.gv e th rest=>fx t++(kw [119,104,105,108,101]::.ws 32::(cn e++(.ws 32::.sg [123]::.ws 10::(aW (t+1) th++(fx t++(.sg [125]::.ws 10::aW t rest))))))
 | t,.ret rest=>fx t++(kw [114,101,116,117,114,110]::.sg [59]::.ws 10::aW t rest)
theorem fB(h:s∈tm):(kw s).fV:=by
 have key:∀s∈tm,(match s with|[]=>false|c::l=>bY c && l.all cd)=true:=by decide
 have:=key s h
 cases s with
 | nil=>cases this
 | cons c l=>
  simp only[KS] at this;exact⟨⟨c,l,rfl,this.1,this.2⟩,.inl (by simpa[dF] using h)⟩
section
variable {a1 f:List Atom}
theorem c6(hc:oX c=true)(h:Atom.chain a1):Atom.chain (.ws c::a1):=cR hc h fun b _=>oY c b
theorem ca(bx:a.fV)(hc:oX c=true)(h:Atom.chain (.ws c::a1)):Atom.chain (a::.ws c::a1):=
 cR bx h fun b O=>by
  simp at O;subst O;exact oJ _ _ hc
theorem iw(bx:a.fV)(hl:a.km=true)(h:Atom.chain (.sg s::a1)):Atom.chain (a::.sg s::a1):=
 cR bx h fun b O=>by
  simp at O;subst O;exact xo _ _ hl rfl
theorem e6(ac:lg a1)(hs:s=[41]∨s=[93]∨s=[59]∨s=[44])(h:Atom.chain (.sg s::f)):Atom.chain (a1++.sg s::f):=
 ep _ _ ac.chain h fun a b bx O=>by
  obtain⟨z,bt,he⟩:=ac.last;rw[bt] at bx;injection bx with bx;subst bx;simp at O;subst O;exact oH _ he _ hs
theorem rl(ac:Atom.chain a1)(hc:oX c=true)(h:Atom.chain (.ws c::f)):Atom.chain (a1++.ws c::f):=
 ep _ _ ac h fun a b _ O=>by
  simp at O;subst O;exact oJ _ _ hc
theorem oF(hs:s=[40]∨s=[91])(ac:lg a1)(h:Atom.chain (a1++f)):Atom.chain (.sg s::(a1++f)):=
 cR (ck (.inl (by rcases hs with rfl|rfl<;>decide))) h fun b O=>by
  obtain⟨a,bx,co⟩:=ac.first;rw[head_append bx] at O;injection O with O;subst O;exact nA _ (by rcases hs with rfl|rfl<;>simp) _ co
def hE(a1:List Atom):Prop:=Atom.chain a1∧∀a,a1.getLast?=some a→∃c,a=.ws c
theorem hE.app(h:hE a1)(O:Atom.chain f):Atom.chain (a1++f):=
 ep _ _ h.1 O fun a b bx _=>by
  obtain⟨c,rfl⟩:=h.2 a bx;exact oY _ _
theorem gr(n:Nat):hE (fx n):=by
 induction n with
 | zero=>exact⟨trivial,fun a h=>by simp[fx] at h⟩
 | succ n ao=>
  refine⟨c6 rfl ao.1,fun a h=>?_⟩;simp only[fx,List.getLast?_replicate] at h;simp at h;exact⟨9,h.symm⟩
theorem tS(h:∀a,m.getLast?=some a→∃c,a=.ws c)(hm:m≠[])(bx:(l++m).getLast?=some a):∃c,a=.ws c:=by
 rw[List.getLast?_append] at bx
 cases hl:m.getLast? with
 | none=>exact absurd (List.getLast?_eq_none_iff.1 hl) hm
 | some b=>
  rw[hl] at bx;simp at bx;subst bx;exact h _ hl
end
theorem py{G:Env}{V:Lt}(hV:dJ V)(hM:∀m∈G.af,bF m.name.data.toList=true)(aZ:∀p∈G.params,bF p.1.data.toList=true)(r:eO)(h:rX G V r):lg (iv r):=by
 have hn:(Atom.word r.name.data.toList).fV:=by
  rcases h with⟨m,hm,he,_⟩|⟨hp,_⟩
  ·rw[←he];exact dG (hM m hm)
  ·exact dG (aZ _ hp)
 unfold iv
 cases an:r.idx with
 | none=>exact⟨hn,⟨_,rfl,.inl ⟨rfl,hn⟩⟩,⟨_,rfl,.inl rfl⟩⟩
 | some e=>
  have hs:e.src V 2:=by
   exact Gu
  have ao:=ek hV 2 e hs;refine⟨iw hn rfl (oF (.inr rfl) ao (e6 ao (.inr (.inl rfl)) (ck (.inl (by decide))))),⟨_,rfl,.inl ⟨rfl,hn⟩⟩,⟨.sg [93],?_,.inr (.inr rfl)⟩⟩;show ((Atom.word r.name.data.toList::.sg [91]::cn e)++[Atom.sg [93]]).getLast?=_
  exact getLast_append rfl
theorem nr:∀(l:List (List Atom)),(∀a∈l,lg a)→l≠[]→lg (dX l)
 | [],_,h=>absurd rfl h
 | [a],h,_=>h a (by simp)
 | a::b::l,h,_=>by
  have ao:=nr (b::l) (fun x hx=>h x (by simp[hx])) (by simp);have bx:=h a (by simp);obtain⟨x,hx,hs⟩:=bx.first;obtain⟨z,bt,he⟩:=ao.last;refine⟨e6 bx (.inr (.inr (.inr rfl))) (ca (ck (.inl (by decide))) rfl (c6 rfl ao.chain)),⟨x,head_append hx,hs⟩,⟨z,?_,he⟩⟩;show (a++([Atom.sg [44],Atom.ws 32]++dX (b::l))).getLast?=some z
  exact getLast_append (getLast_append bt)
section
variable {G:Env} {V:Lt} (hV:dJ V) (hM:∀m∈G.af,bF m.name.data.toList=true) (aZ:∀p∈G.params,bF p.1.data.toList=true)
include hV hM aZ
theorem vC(p:ByteArray×Bool)(a:dn)(h:IY G V p a):lg (fC a):=by
 cases a with
 | ex e=>exact ek hV 2 e h.2
 | mx r=>
  have ao:=py hV hM aZ r h.2;have ap:(kw fM).fV:=fB (by decide);obtain⟨z,bt,he⟩:=ao.last;refine⟨ca ap rfl (c6 rfl ao.chain),⟨_,rfl,.inl ⟨rfl,ap⟩⟩,⟨z,?_,he⟩⟩;show ([kw fM,Atom.ws 32]++iv r).getLast?=some z
  exact getLast_append bt
theorem uT:∀(ps:List (ByteArray×Bool)) (a1:List dn),iN G V ps a1→(∀a∈a1.map fC,lg a)∧a1.length=ps.length
 | [],[],_=>⟨fun a h=>by simp at h,rfl⟩
 | p::ps,a::a1,h=>by
  obtain⟨ac,av⟩:=uT ps a1 h.2;refine⟨fun x hx=>?_,by simp[av]⟩;simp only[KM,KW] at hx;rcases hx with rfl|hx
  ·exact vC hV hM aZ p a h.1
  ·exact ac x hx
 | [],_::_,h=>h.elim
 | _::_,[],h=>h.elim
theorem qT(ps:List (ByteArray×Bool))(a1:List dn)(h:iN G V ps a1){f:List Atom}(O:Atom.chain (.sg [59]::f)):Atom.chain (iT a1++.sg [59]::f):=by
 have d:Atom.chain (.sg [41]::.sg [59]::f):=cR (ck (.inl (by decide))) O fun b O=>by
  simp at O;subst O;exact oH _ (.inr (.inl rfl)) _ (.inr (.inr (.inl rfl)))
 obtain⟨ac,_⟩:=uT hV hM aZ ps a1 h
 cases a1 with
 | nil=>
  refine cR (ck (.inl (by decide))) d fun b O=>?_
  exact GB
 | cons a l=>
  have ao:=nr ((a::l).map fC) ac (by simp);show Atom.chain (Atom.sg [40]::((dX ((a::l).map fC)++[Atom.sg [41]])++Atom.sg [59]::f))
  rw[KU];exact oF (.inl rfl) ao (e6 ao (.inl rfl) d)
end
def lh(l:List Atom):Prop:=l≠[]∧∀a,l.getLast?=some a→∃c,a=.ws c
theorem lh.cons{x:Atom}(h:lh l):lh (x::l):=
 ⟨by simp,fun a bx=>tS (l:=[x]) h.2 h.1 (by simpa using bx)⟩
theorem lh.app(h:lh m):lh (l++m):=
 ⟨by have:=h.1;simp[this],fun a bx=>tS h.2 h.1 bx⟩
theorem lh.nl(h:∀a,l.getLast?=some a→∃c,a=.ws c):lh (.ws 10::l):=by
 refine⟨by simp,fun a bx=>?_⟩
 cases l with
 | nil=>simp at bx;exact⟨10,bx.symm⟩
 | cons x l=>exact h a (by rw[List.getLast?_cons_cons] at bx;exact bx)
theorem dM:∀(b:an) (t:Nat) (a:Atom),(aW t b).getLast?=some a→∃c,a=.ws c
 | .nil,t,a,h=>by simp[aW] at h
 | .set v n e rest,t,a,h=>by
  unfold aW at h
  exact(lh.app (.app (.cons (.cons (.cons (.cons (.app (.cons (.nl (dM rest t)))))))))).2 a h
 | .call g n a1 rest,t,a,h=>by
  unfold aW at h
  exact(lh.app (.app (.cons (.app (.cons (.nl (dM rest t))))))).2 a h
 | .lock u r rest,t,a,h=>by
  unfold aW at h
  exact(lh.app (.cons (.cons (.app (.cons (.nl (dM rest t))))))).2 a h
 | .ite e th el rest,t,a,h=>by
  unfold aW at h
  exact(lh.app (.cons (.cons (.app (.cons (.cons (.cons (.app (.app (.cons (.app (.nl (dM rest t))))))))))))).2 a h
 | .gv e th rest,t,a,h=>by
  unfold aW at h
  exact(lh.app (.cons (.cons (.app (.cons (.cons (.cons (.app (.app (.cons (.nl (dM rest t)))))))))))).2 a h
 | .ret rest,t,a,h=>by
  unfold aW at h;exact(lh.app (.cons (.cons (.nl (dM rest t))))).2 a h
structure nK(G:Env):Prop where
 af:∀m∈G.af,bF m.name.data.toList=true
 params:∀p∈G.params,bF p.1.data.toList=true
 funcs:∀f∈G.funcs,bF f.1.data.toList=true∧f.2.length≤2
theorem jZ{V:Lt}{n:ByteArray}(h:dJ V)(hn:bF n.data.toList=true):dJ (V++[n]):=by
 intro s hs;simp only[KP,Li] at hs;rcases hs with hs|rfl
 ·exact h s hs
 ·exact hn
theorem cX{G:Env}(hG:nK G):∀(b:an) (d t:Nat) (V T:Lt),dJ V→e4 G d V T b→Atom.chain (aW t b)
 | .nil,d,t,V,T,_,_=>trivial
 | .set v n e rest,d,t,V,T,hV,h=>by
  have a:(Atom.sg [59]).fV:=ck (.inl (by decide));have f:(Atom.sg [61]).fV:=ck (.inl (by decide));unfold aW
  cases v with
  | true=>
   have F:bF n.data.toList=true∧n∉T∧e.src V 2∧e4 G d (V++[n]) (T++[n]) rest:=by cases d<;>exact h
   have ao:=cX hG rest d t _ _ (jZ hV F.1) F.2.2.2;have aw:=ek hV 2 e F.2.2.1
   exact(gr t).app (ca (fB (by decide)) rfl (c6 rfl (ca (dG F.1) rfl (c6 rfl (ca f rfl (c6 rfl (e6 aw (.inr (.inr (.inl rfl))) (ca a rfl (c6 rfl ao)))))))))
  | false=>
   have F:n∈V∧e.src V 2∧e4 G d V T rest:=by cases d<;>exact h
   have ao:=cX hG rest d t _ _ hV F.2.2;have aw:=ek hV 2 e F.2.1
   exact(gr t).app (ca (dG (hV n F.1)) rfl (c6 rfl (ca f rfl (c6 rfl (e6 aw (.inr (.inr (.inl rfl))) (ca a rfl (c6 rfl ao)))))))
 | .call g n a1 rest,d,t,V,T,hV,h=>by
  have F:(∃ps,(n,ps)∈G.funcs∧iN G V ps a1)∧e4 G d V T rest:=by cases d<;>exact h
  obtain⟨⟨ps,J,has⟩,a5⟩:=F;have ao:=cX hG rest d t _ _ hV a5;have a:(Atom.sg [59]).fV:=ck (.inl (by decide));have bw:=qT hV hG.af hG.params ps a1 has (ca a rfl (c6 (c:=10) rfl ao));have ba:Atom.chain (.word n.data.toList::(iT a1++(.sg [59]::.ws 10::aW t rest))):=iw (dG (hG.funcs _ J).1) rfl bw;unfold aW
  cases g with
  | true=>exact(gr t).app (ca (fB (by decide)) rfl (c6 rfl ba))
  | false=>exact(gr t).app ba
 | .lock u r rest,d,t,V,T,hV,h=>by
  have F:rX G V r∧e4 G d V T rest:=by cases d<;>exact h
  have ao:=cX hG rest d t _ _ hV F.2;have cA:=py hV hG.af hG.params r F.1;have a:(Atom.sg [59]).fV:=ck (.inl (by decide));unfold aW
  exact(gr t).app (ca (fB (by cases u<;>decide)) rfl (c6 rfl (e6 cA (.inr (.inr (.inl rfl))) (ca a rfl (c6 rfl ao)))))
 | .ite e th el rest,0,t,V,T,hV,h=>h.elim
 | .gv e th rest,0,t,V,T,hV,h=>h.elim
 | .ite e th el rest,d+1,t,V,T,hV,h=>by
  have j:=cX hG th d (t+1) _ _ hV h.2.1;have o:=cX hG el d (t+1) _ _ hV h.2.2.1;have ao:=cX hG rest (d+1) t _ _ hV h.2.2.2;have aw:=ek hV 2 e h.1;have k:(Atom.sg [123]).fV:=ck (.inl (by decide));have i:(Atom.sg [125]).fV:=ck (.inl (by decide));have e1:hE (aW (t+1) th):=⟨j,dM th _⟩
  have e2:hE (aW (t+1) el):=⟨o,dM el _⟩
  have b9:Atom.chain (.ws 10::aW t rest):=c6 rfl ao;have tail:Atom.chain (.sg [125]::((if el.isNil then [] else .ws 32::kw [101,108,115,101]::.ws 32::.sg [123]::.ws 10::(aW (t+1) el++(fx t++[.sg [125]])))++(.ws 10::aW t rest))):=by
   have b0:Atom.chain (.sg [125]::((.ws 32::kw [101,108,115,101]::.ws 32::.sg [123]::.ws 10::(aW (t+1) el++(fx t++[.sg [125]])))++(.ws 10::aW t rest))):=by
    refine ca i rfl (c6 rfl (ca (fB (by decide)) rfl (c6 rfl (ca k rfl (c6 rfl ?_)))));show Atom.chain ((aW (t+1) el++(fx t++[Atom.sg [125]]))++(Atom.ws 10::aW t rest))
    rw[KU,KU];exact e2.app ((gr t).app (ca i rfl b9))
   split
   ·exact ca i rfl b9
   ·exact b0
  unfold aW
  exact(gr t).app (ca (fB (by decide)) rfl (c6 rfl (rl aw.chain rfl (c6 rfl (ca k rfl (c6 rfl (e1.app ((gr t).app tail))))))))
 | .gv e th rest,d+1,t,V,T,hV,h=>by
  have j:=cX hG th d (t+1) _ _ hV h.2.1;have ao:=cX hG rest (d+1) t _ _ hV h.2.2;have aw:=ek hV 2 e h.1;have k:(Atom.sg [123]).fV:=ck (.inl (by decide));have i:(Atom.sg [125]).fV:=ck (.inl (by decide));have e1:hE (aW (t+1) th):=⟨j,dM th _⟩
  unfold aW
  exact(gr t).app (ca (fB (by decide)) rfl (c6 rfl (rl aw.chain rfl (c6 rfl (ca k rfl (c6 rfl (e1.app ((gr t).app (ca i rfl (c6 rfl ao))))))))))
 | .ret rest,d,t,V,T,hV,h=>by
  have F:e4 G d V T rest:=by cases d<;>exact h
  have ao:=cX hG rest d t _ _ hV F;have a:(Atom.sg [59]).fV:=ck (.inl (by decide));unfold aW;exact(gr t).app (iw (fB (by decide)) rfl (ca a rfl (c6 rfl ao)))
theorem js:∀(k n:Nat),n<10 ^ (k+1)→(jr n).length≤k+1
 | k,n,h=>by
  rw[jr];split
  ·simp
  ·cases k with
   | zero=>simp at h;omega
   | succ k=>
    have:=js k (n / 10) (by rw[Nat.div_lt_iff_lt_mul ad,←Nat.pow_succ];exact h);simp;omega
 termination_by k=>k
theorem eB(h:bF s=true):s.length≤16:=by
 simp only[bF,KS,Ll] at h;exact h.1.2
def fI(a1:List Atom):Nat:=(aV a1).length
theorem bD(a1 f:List Atom):fI (a1++f)=fI a1+fI f:=by unfold fI;rw[bf,KI]
theorem bp(a:Atom)(f:List Atom):fI (a::f)=a.bytes.length+fI f:=by unfold fI;rw[a5,KI]
theorem cC:fI []=0:=rfl
theorem cN(c:UInt8)(a1:List Atom):Atom.count (.ws c::a1)=Atom.count a1:=rfl
theorem c9(c:List UInt8)(a1:List Atom):Atom.count (.word c::a1)=Atom.count a1+1:=rfl
theorem nc(c:List UInt8)(a1:List Atom):Atom.count (.num c::a1)=Atom.count a1+1:=rfl
theorem cr(c:List UInt8)(a1:List Atom):Atom.count (.sg c::a1)=Atom.count a1+1:=rfl
theorem dS(c:List UInt8)(a1:List Atom):Atom.count (kw c::a1)=Atom.count a1+1:=rfl
theorem count_nil:Atom.count []=0:=rfl
theorem eI(c:UInt8):(Atom.ws c).bytes.length=1:=rfl
theorem eA(c:List UInt8):(Atom.word c).bytes.length=c.length:=rfl
theorem gI(c:List UInt8):(kw c).bytes.length=c.length:=rfl
theorem sP(c:List UInt8):(Atom.num c).bytes.length=c.length:=rfl
theorem dY(c:List UInt8):(Atom.sg c).bytes.length=c.length:=rfl
def cE:Nat→Nat
 | 0=>1
 | d+1=>2*(cE d+2)+1
def bE:Nat→Nat
 | 0=>19
 | d+1=>2*(bE d+2)+4
theorem Dm:∀d,1≤cE d
 | 0=>KG _
 | d+1=>by unfold cE;omega
theorem vG:∀d,19≤bE d
 | 0=>KG _
 | d+1=>by have:=vG d;unfold bE;omega
theorem nv(b:Bool)(a1:List Atom):Atom.count (par b a1)≤Atom.count a1+2∧fI (par b a1)≤fI a1+2:=by
 cases b
 ·exact⟨by simp[par],by simp[par]⟩
 ·simp only[par,if_true,cr,count_append,bp,bD,cC,dY,count_nil,KT,KZ];omega
theorem El(op:Int):(gQ op).length≤2:=by
 unfold gQ
 repeat' split
 all_goals decide
theorem df{N:Lt}(hN:dJ N):∀(d:Nat) (x:VE),x.src N d→Atom.count (cn x)≤cE d∧fI (cn x)≤bE d
 | d,.num n,h=>by
  have F:0≤n∧n<4611686018427387904:=by cases d<;>exact h
  have:=js 18 n.toNat ad;have ac:=Dm d;have av:=vG d;simp only[cn,nc,count_nil,bp,cC,sP]
  omega
 | d,.g0 s,h=>by
  have F:s∈N:=by cases d<;>exact h
  have:=eB (hN s F);have ac:=Dm d;have av:=vG d;simp only[cn,c9,count_nil,bp,cC,eA]
  omega
 | d,.loc _,h=>by cases d<;>exact h.elim
 | d,.iC _,h=>by cases d<;>exact h.elim
 | 0,.un _ _,h=>h.elim
 | 0,.bin _ _ _,h=>h.elim
 | d+1,.un op x,h=>by
  have ao:=df hN d x h.2;have hp:=nv (dD op (a9 x) false) (cn x);have hs:(if op=3 then [45] else [33]:List UInt8).length=1:=by split<;>rfl
  simp only[cn,cr,bp,dY,hs,cE,bE]
  omega
 | d+1,.bin op x y,h=>by
  have i:=df hN d x h.2.1;have c:=df hN d y h.2.2;have hp:=nv (dD op (a9 x) false) (cn x);have bK:=nv (dD op (a9 y) true) (cn y);have hs:=El op;simp only[cn,count_append,cN,cr,bD,bp,eI,dY,cE,bE];omega
section
variable {G:Env} {V:Lt} (hV:dJ V) (hG:nK G)
include hV hG
theorem ml(r:eO)(h:rX G V r):Atom.count (iv r)≤22∧fI (iv r)≤118:=by
 have hn:bF r.name.data.toList=true:=by
  rcases h with⟨m,hm,he,_⟩|⟨hp,_⟩
  ·rw[←he];exact hG.af m hm
  ·exact hG.params _ hp
 have hl:=eB hn;unfold iv
 cases an:r.idx with
 | none=>
  exact zP
 | some e=>
  have hs:e.src V 2:=by
   exact Gu
  have ao:=df hV 2 e hs;simp only[cE,bE] at ao;simp only[c9,cr,count_append,count_nil,bp,bD,cC,eA,dY,KT,KZ];omega
theorem mj(p:ByteArray×Bool)(a:dn)(h:IY G V p a):Atom.count (fC a)≤23∧fI (fC a)≤124:=by
 cases a with
 | ex e=>
  have ao:=df hV 2 e h.2;simp only[cE,bE] at ao;show Atom.count (cn e)≤23∧fI (cn e)≤124
  omega
 | mx r=>
  have ao:=ml hV hG r h.2;simp only[fC,dS,cN,bp,gI,eI];have:fM.length=5:=rfl;omega
theorem nW:∀(ps:List (ByteArray×Bool)) (a1:List dn),iN G V ps a1→Atom.count (dX (a1.map fC))≤24*ps.length∧fI (dX (a1.map fC))≤126*ps.length
 | [],[],_=>⟨KG _,KG _⟩
 | [p],[a],h=>by
  have:=mj hV hG p a h.1;simp only[KM,Le,dX,KT,KZ]
  omega
 | p::q::ps,a::b::a1,h=>by
  have ac:=mj hV hG p a h.1;have ao:=nW (q::ps) (b::a1) h.2;simp only[KM] at ao;simp only[KM,dX,count_append,cr,cN,bD,bp,dY,eI,KT,KZ] at ao ⊢
  omega
 | [],_::_,h=>h.elim
 | _::_,[],h=>h.elim
 | [_],_::_::_,h=>h.2.elim
 | _::_::_,[_],h=>h.2.elim
theorem qU(ps:List (ByteArray×Bool))(a1:List dn)(h:iN G V ps a1)(hp:ps.length≤2):Atom.count (iT a1)≤50∧fI (iT a1)≤254:=by
 have:=nW hV hG ps a1 h;simp only[iT,cr,count_append,count_nil,bp,bD,cC,dY,KT,KZ];omega
end
theorem gT(t:Nat):Atom.count (fx t)=0∧fI (fx t)=t:=by
 induction t with
 | zero=>exact⟨rfl,rfl⟩
 | succ t ao=>
  have e:fx (t+1)=.ws 9::fx t:=rfl;rw[e,cN,bp,eI];omega
theorem cY{G:Env}(hG:nK G):∀(b:an) (d t:Nat) (V T:Lt),dJ V→t+d≤8→e4 G d V T b→Atom.count (aW t b)≤53*b.num∧fI (aW t b)≤400*b.num
 | .nil,d,t,V,T,_,_,_=>⟨KG _,KG _⟩
 | .set v n e rest,d,t,V,T,hV,ht,h=>by
  have ca:=gT t
  cases v with
  | true=>
   have F:bF n.data.toList=true∧n∉T∧e.src V 2∧e4 G d (V++[n]) (T++[n]) rest:=by cases d<;>exact h
   have ao:=cY hG rest d t _ _ (jZ hV F.1) ht F.2.2.2;have aw:=df hV 2 e F.2.2.1;have hn:=eB F.1;simp only[cE,bE] at aw;simp only[aW,if_true,count_append,dS,cN,c9,cr,count_nil,bD,bp,cC,gI,eI,eA,dY,an.num,KT,KZ]
   omega
  | false=>
   have F:n∈V∧e.src V 2∧e4 G d V T rest:=by cases d<;>exact h
   have ao:=cY hG rest d t _ _ hV ht F.2.2;have aw:=df hV 2 e F.2.1;have hn:=eB (hV n F.1);simp only[cE,bE] at aw;simp only[aW,Lm,if_false,count_append,cN,c9,cr,count_nil,bD,bp,cC,eI,eA,dY,an.num,KT,KZ]
   omega
 | .call g n a1 rest,d,t,V,T,hV,ht,h=>by
  have ca:=gT t;have F:(∃ps,(n,ps)∈G.funcs∧iN G V ps a1)∧e4 G d V T rest:=by cases d<;>exact h
  obtain⟨⟨ps,J,has⟩,a5⟩:=F;have ao:=cY hG rest d t _ _ hV ht a5;have bw:=qU hV hG ps a1 has (hG.funcs _ J).2;have hn:=eB (hG.funcs _ J).1;cases g<;>
  ·simp only[aW,Lm,if_false,if_true,count_append,dS,cN,c9,cr,count_nil,bD,bp,cC,gI,eI,eA,dY,an.num,KT,KZ];simp only[] at hn
   omega
 | .lock u r rest,d,t,V,T,hV,ht,h=>by
  have ca:=gT t;have F:rX G V r∧e4 G d V T rest:=by cases d<;>exact h
  have ao:=cY hG rest d t _ _ hV ht F.2;have cA:=ml hV hG r F.1;cases u<;>
  ·simp only[aW,Lm,if_false,if_true,count_append,dS,cN,cr,bD,bp,gI,eI,dY,an.num,KT,KZ]
   omega
 | .ite e th el rest,0,t,V,T,hV,ht,h=>h.elim
 | .gv e th rest,0,t,V,T,hV,ht,h=>h.elim
 | .ite e th el rest,d+1,t,V,T,hV,ht,h=>by
  have ca:=gT t;have j:=cY hG th d (t+1) _ _ hV ad h.2.1;have o:=cY hG el d (t+1) _ _ hV ad h.2.2.1;have ao:=cY hG rest (d+1) t _ _ hV ht h.2.2.2;have aw:=df hV 2 e h.1;simp only[cE,bE] at aw;cases hn:el.isNil<;>
  ·simp only[aW,hn,Lm,if_false,if_true,KV,Lh,count_append,dS,cN,cr,count_nil,bD,bp,cC,gI,eI,dY,an.num,KT,KZ]
   omega
 | .gv e th rest,d+1,t,V,T,hV,ht,h=>by
  have ca:=gT t;have j:=cY hG th d (t+1) _ _ hV ad h.2.1;have ao:=cY hG rest (d+1) t _ _ hV ht h.2.2;have aw:=df hV 2 e h.1;simp only[cE,bE] at aw;simp only[aW,count_append,dS,cN,cr,bD,bp,gI,eI,dY,an.num,KT,KZ]
  omega
 | .ret rest,d,t,V,T,hV,ht,h=>by
  have ca:=gT t;have F:e4 G d V T rest:=by cases d<;>exact h
  have ao:=cY hG rest d t _ _ hV ht F;simp only[aW,count_append,dS,cN,cr,bD,bp,gI,eI,dY,an.num,KT,KZ];omega
def hB(n:Int):List Atom:=if n<0 then [.sg [45],.num (jr n.natAbs)] else [.num (jr n.toNat)]
def hz(g:ByteArray×Int):List Atom:=kw [118,97,114]::.ws 32::.word g.1.data.toList::((if g.2=0 then [] else .ws 32::.sg [61]::.ws 32::hB g.2)++[.sg [59],.ws 10])
def hA(m:bI):List Atom:=kw (if m.re then [114,109,117,116,101,120] else fM)::.ws 32::.word m.name.data.toList::((if 0<m.size then .sg [91]::(hB m.size++[.sg [93]]) else [])++[.sg [59],.ws 10])
def gG(p:ByteArray×Bool):List Atom:=if p.2 then [kw fM,.ws 32,.word p.1.data.toList] else [.word p.1.data.toList]
def hy(f:aK):List Atom:=kw [102,117,110,99]::.ws 32::.word f.name.data.toList::.sg [40]::(dX (f.params.map gG)++(.sg [41]::.ws 32::.sg [123]::.ws 10::(aW 1 f.body++[.sg [125],.ws 10])))
def fD(p:bM):List Atom:=p.globals.flatMap hz++(p.af.flatMap hA++p.funcs.flatMap hy)
def fo(p:bM):List ByteArray:=p.globals.map (·.1)
def bh(p:bM):List ByteArray:=fo p++p.af.map (·.name)++p.funcs.map (·.name)
def sigs(p:bM):List (ByteArray×List (ByteArray×Bool)):=p.funcs.map fun f=>(f.name,f.params)
def hW(p:bM)(f:aK):Env:=⟨p.af,f.params,sigs p⟩
def ct(ps:List (ByteArray×Bool)):List ByteArray:=(ps.filter fun q=>!q.2).map (·.1)
structure Ko(p:bM)(f:aK):Prop where
 params:∀q∈f.params,bF q.1.data.toList=true
 jy:f.params.length≤2
 fresh:(bh p++f.params.map (·.1)).Nodup
 body:e4 (hW p f) 4 (fo p++ct f.params) (bh p++f.params.map (·.1)) f.body
structure ox(p:bM):Prop where
 names:∀s∈bh p,bF s.data.toList=true
 nodup:(bh p).Nodup
 n7:p.globals.length≤16
 wi:p.af.length≤12
 D0:p.funcs.length≤16
 inits:∀g∈p.globals,-9223372036854775807≤g.2∧g.2≤9223372036854775807
 gp:∀m∈p.af,0≤m.size∧m.size≤64∧(m.re=true→m.size=0)
 funcs:∀f∈p.funcs,Ko p f
 main:∃(i:Nat) (f:aK),p.funcs[i]?=some f∧f.name=⟨#[109,97,105,110]⟩∧f.params=[]
 jy:(p.funcs.map fun f=>f.body.num).sum≤64
theorem ox.env(h:ox p){f:aK}(J:f∈p.funcs):nK (hW p f) where
 af:=fun m hm=>h.names _ (by simp only[bh,KP,Lf];exact .inl (.inr ⟨m,hm,rfl⟩))
 params:=(h.funcs f J).params
 funcs:=fun g a2=>by
  obtain⟨k,ap,rfl⟩:=Lf.1 a2;exact⟨h.names _ (by simp only[bh,KP,Lf];exact .inr ⟨k,ap,rfl⟩),(h.funcs k ap).jy⟩
theorem ox.vars(h:ox p){f:aK}(J:f∈p.funcs):dJ (fo p++ct f.params):=by
 intro s hs;rcases KP.1 hs with hs|hs
 ·exact h.names _ (by simp only[bh,KP];exact .inl (.inl hs))
 ·obtain⟨q,bK,rfl⟩:=Lf.1 hs;exact(h.funcs f J).params q (List.mem_filter.1 bK).1
theorem jU{α:Type}(f:α→List Atom):∀(l:List α),(∀x∈l,hE (f x))→hE (l.flatMap f)
 | [],_=>⟨trivial,fun a h=>by simp at h⟩
 | x::l,h=>by
  have ao:=jU f l fun y bb=>h y (by simp[bb]);have hx:=h x (by simp);refine⟨hx.app ao.1,fun a bx=>?_⟩;rw[Lb,List.getLast?_append] at bx
  cases hl:(l.flatMap f).getLast? with
  | none=>rw[hl] at bx;exact hx.2 a (by simpa using bx)
  | some b=>
   rw[hl] at bx;simp at bx;subst bx;exact ao.2 b hl
theorem jV{α:Type}(f:α→List Atom)(g:α→Nat)(c k:Nat):∀(l:List α),(∀x∈l,Atom.count (f x)≤c+53*g x∧fI (f x)≤k+400*g x)→
  Atom.count (l.flatMap f)≤c*l.length+53*(l.map g).sum∧fI (l.flatMap f)≤k*l.length+400*(l.map g).sum
 | [],_=>⟨by simp[count_nil],by simp[cC]⟩
 | x::l,h=>by
  have ao:=jV f g c k l fun y bb=>h y (by simp[bb]);have hx:=h x (by simp);simp only[Lb,count_append,bD,KT,KM,List.sum_cons,Nat.mul_add,Nat.mul_one];omega
theorem HQ{α:Type}(l:List α):(l.map fun _=>0).sum=0:=by induction l<;>simp_all
theorem pz(n:Int)(h:-9223372036854775807≤n∧n≤9223372036854775807):lg (hB n)∧Atom.count (hB n)≤2∧fI (hB n)≤20:=by
 unfold hB;split
 ·have a2:=qb (n:=n.natAbs) ad;have hl:=js 18 n.natAbs ad;refine⟨EB (.inl rfl) ⟨a2,⟨_,rfl,.inl ⟨rfl,a2⟩⟩,⟨_,rfl,.inl rfl⟩⟩,?_,?_⟩
  ·simp only[cr,nc,count_nil];omega
  ·simp only[bp,cC,dY,sP,KT,KZ];omega
 ·have a2:=qb (n:=n.toNat) ad;have hl:=js 18 n.toNat ad;refine⟨⟨a2,⟨_,rfl,.inl ⟨rfl,a2⟩⟩,⟨_,rfl,.inl rfl⟩⟩,?_,?_⟩
  ·simp only[nc,count_nil];omega
  ·simp only[bp,cC,sP];omega
theorem FK:Atom.chain [.sg [59],.ws 10]:=ca (ck (.inl (by decide))) rfl rfl
theorem rh(g:ByteArray×Int)(hn:bF g.1.data.toList=true)(h:-9223372036854775807≤g.2∧g.2≤9223372036854775807):hE (hz g)∧Atom.count (hz g)≤6∧fI (hz g)≤50:=by
 have hl:=eB hn;obtain⟨bt,hc,O⟩:=pz g.2 h;have ap:(kw [118,97,114]).fV:=fB (by decide);refine⟨⟨?_,fun a bx=>?_⟩,?_⟩
 ·unfold hz;refine ca ap rfl (c6 rfl ?_);split
  ·exact iw (dG hn) rfl FK
  ·exact ca (dG hn) rfl (c6 rfl (ca (ck (.inl (by decide))) rfl (c6 rfl (e6 bt (.inr (.inr (.inl rfl))) FK))))
 ·unfold hz at bx;exact zA
 ·unfold hz;have aV:([118,97,114]:List UInt8).length=3:=rfl;split
  ·simp only[Lh,dS,cN,c9,cr,count_nil,bp,cC,gI,eI,eA,dY,KT,KZ];omega
  ·simp only[KV,dS,cN,c9,cr,count_append,count_nil,bp,bD,cC,gI,eI,eA,dY,KT,KZ];omega
theorem ri(m:bI)(hn:bF m.name.data.toList=true)(h:0≤m.size∧m.size≤64):hE (hA m)∧Atom.count (hA m)≤7∧fI (hA m)≤50:=by
 have hl:=eB hn;obtain⟨bt,hc,O⟩:=pz m.size ad;have ap:(kw (if m.re then [114,109,117,116,101,120] else fM)).fV:=fB (by split<;>decide);have bc:(if m.re then [114,109,117,116,101,120] else fM:List UInt8).length≤6:=by split<;>decide
 refine⟨⟨?_,fun a bx=>?_⟩,?_⟩
 ·unfold hA;refine ca ap rfl (c6 rfl ?_);split
  ·simp only[KV,KU];refine iw (dG hn) rfl (oF (.inr rfl) bt (e6 bt (.inr (.inl rfl)) (cR (ck (.inl (by decide))) FK fun b O=>?_)));simp at O;subst O;exact oH _ (.inr (.inr rfl)) _ (.inr (.inr (.inl rfl)))
  ·exact iw (dG hn) rfl FK
 ·unfold hA at bx;exact zA
 ·unfold hA;generalize (if m.re then [114,109,117,116,101,120] else fM:List UInt8)=s at *;split
  ·simp only[KV,dS,cN,c9,cr,count_append,count_nil,bp,bD,cC,gI,eI,eA,dY,KT,KZ];omega
  ·simp only[Lh,dS,cN,c9,cr,count_nil,bp,cC,gI,eI,eA,dY,KT,KZ];omega
theorem m7(p:ByteArray×Bool)(hn:bF p.1.data.toList=true):lg (gG p)∧Atom.count (gG p)≤2∧fI (gG p)≤22:=by
 have hl:=eB hn;have hw:=dG hn;have ap:(kw fM).fV:=fB (by decide);have cm:fM.length=5:=rfl;unfold gG;split
 ·refine⟨⟨ca ap rfl (c6 rfl hw),⟨_,rfl,.inl ⟨rfl,ap⟩⟩,⟨_,rfl,.inl rfl⟩⟩,?_⟩;simp only[dS,cN,c9,count_nil,bp,cC,gI,eI,eA];omega
 ·refine⟨⟨hw,⟨_,rfl,.inl ⟨rfl,hw⟩⟩,⟨_,rfl,.inl rfl⟩⟩,?_⟩;exact zP
theorem nX:∀(l:List (ByteArray×Bool)),(∀q∈l,bF q.1.data.toList=true)→Atom.count (dX (l.map gG))≤3*l.length∧fI (dX (l.map gG))≤24*l.length
 | [],_=>⟨KG _,KG _⟩
 | [p],h=>by
  have:=(m7 p (h p (by simp))).2;simp only[KM,Le,dX,KT,KZ]
  omega
 | p::q::l,h=>by
  have ac:=(m7 p (h p (by simp))).2;have ao:=nX (q::l) fun x hx=>h x (by simp[hx]);simp only[KM] at ao;simp only[KM,dX,count_append,cr,cN,bD,bp,dY,eI,KT,KZ] at ao ⊢;omega
theorem rf(hp:ox p){f:aK}(J:f∈p.funcs):hE (hy f)∧Atom.count (hy f)≤13+53*f.body.num∧fI (hy f)≤80+400*f.body.num:=by
 have hF:=hp.funcs f J;have hn:bF f.name.data.toList=true:=hp.names _ (by simp only[bh,KP,Lf];exact .inr ⟨f,J,rfl⟩);have hl:=eB hn;have hc:=cX (hp.env J) f.body 4 1 _ _ (hp.vars J) hF.body;have ap:=cY (hp.env J) f.body 4 1 _ _ (hp.vars J) ad hF.body;have bK:=nX f.params hF.params;have L:=hF.jy;have k:(Atom.sg [123]).fV:=ck (.inl (by decide));have i:Atom.chain [.sg [125],.ws 10]:=ca (ck (.inl (by decide))) rfl rfl;have e1:hE (aW 1 f.body):=⟨hc,dM f.body 1⟩
 have tail:Atom.chain (.sg [41]::.ws 32::.sg [123]::.ws 10::(aW 1 f.body++[.sg [125],.ws 10])):=
  ca (ck (.inl (by decide))) rfl (c6 rfl (ca k rfl (c6 rfl (e1.app i))))
 refine⟨⟨?_,fun a bx=>?_⟩,?_⟩
 ·unfold hy;refine ca (fB (by decide)) rfl (c6 rfl (iw (dG hn) rfl ?_))
  cases cA:f.params with
  | nil=>
   refine cR (ck (.inl (by decide))) tail fun b O=>?_
   exact GB
  | cons q l=>
   have hs:lg (dX ((q::l).map gG)):=nr _ (fun a bx=>by
    obtain⟨x,hx,rfl⟩:=Lf.1 bx;exact(m7 x (hF.params x (by rw[cA];exact hx))).1) (by simp)
   exact oF (.inl rfl) hs (e6 hs (.inl rfl) tail)
 ·unfold hy at bx;exact(lh.cons (.cons (.cons (.cons (.app (.cons (.cons (.cons (.cons (.app (.cons (.nl (l:=[]) fun a h=>by simp at h)))))))))))).2 a bx
 ·have bz:([102,117,110,99]:List UInt8).length=4:=rfl;simp only[hy,dS,cN,c9,cr,count_append,count_nil,bp,bD,cC,gI,eI,eA,dY,KT,KZ];omega
theorem uh(hp:ox p):(dt (aV (fD p))).2.2=0:=by
 have a2:∀g∈p.globals,bF g.1.data.toList=true:=fun g h=>hp.names _ (by simp only[bh,fo,KP,Lf];exact .inl (.inl ⟨g,h,rfl⟩));have hm:∀m∈p.af,bF m.name.data.toList=true:=fun m h=>hp.names _ (by simp only[bh,KP,Lf];exact .inl (.inr ⟨m,h,rfl⟩));have c1:=jU hz p.globals fun g h=>(rh g (a2 g h) (hp.inits g h)).1;have c2:=jU hA p.af fun m h=>(ri m (hm m h) ⟨(hp.gp m h).1,(hp.gp m h).2.1⟩).1;have c3:=jU hy p.funcs fun f h=>(rf hp h).1;have cv:=jV hz (fun _=>0) 6 50 p.globals fun g h=>by have:=(rh g (a2 g h) (hp.inits g h)).2;omega
 have bP:=jV hA (fun _=>0) 7 50 p.af fun m h=>by have:=(ri m (hm m h) ⟨(hp.gp m h).1,(hp.gp m h).2.1⟩).2;omega
 have cU:=jV hy (fun f=>f.body.num) 13 80 p.funcs fun f h=>(rf hp h).2;rw[HQ] at cv bP;have n1:=hp.n7;have n2:=hp.wi;have n3:=hp.D0;have n4:=hp.jy;have hlen:(aV (fD p)).length≤262144:=by
  have:fI (fD p)=fI (p.globals.flatMap hz)+(fI (p.af.flatMap hA)+fI (p.funcs.flatMap hy)):=by unfold fD;rw[bD,bD]
  unfold fI at this cv bP cU;omega
 unfold dt;rw[if_neg ad];refine iD (fD p) _ _ [] ?_ (Nat.lt_succ_self _) ?_
 ·exact c1.app (c2.app c3.1)
 ·unfold fD;rw[count_append,count_append];simp only[KZ];omega
end Go.Proofs.YtnhhdaggkiomoaaGreat
