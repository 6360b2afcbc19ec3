/- Part 7 of the proof. No condition of its own. -/
import Derived.Test.YtnigabjngpnbiaaGreatQ03
import Derived.Test.YtnigabjngpnbiaaGreatQ06
namespace Go.Proofs.YtnigabjngpnbiaaGreat
open Go.RowKit Go.Proofs.Tryz
set_option maxRecDepth 1000000
set_option maxHeartbeats 25600000
set_option linter.unusedVariables false
variable{a:Atom}{l m:List Atom}{s:List UInt8}{c:UInt8}{f:a1}{p:bC}
def bP:VE->Int
 | .num _=>1
 | .eP _=>2
 | .loc _=>18
 | .hP _=>19
 | .un op _=>op
 | .bin op _ _=>op
def cK(op:Int):Int:=if op=17 then 0 else if op=16 then 1 else if 10<=op/\op<=15 then 2 else if op=8\/op=9 then 3 else if 5<=op/\op<=7 then 4 else if op=3\/op=4 then 5 else 6
def di(op arg:Int)(second:Bool):Bool:=decide (cK arg<cK op) || (cK arg == cK op && second)
def gh(op:Int):List UInt8:=
 if op=5 then [42] else if op=6 then [47] else if op=7 then [37] else if op=8 then [43] else if op=9 then [45] else if op=10 then [60] else if op=11 then [60,61]
 else if op=12 then [62] else if op=13 then [62,61] else if op=14 then [61,61] else if op=15 then [33,61] else if op=16 then [38,38] else [124,124]
def par(b:Bool)(aH:List Atom):List Atom:=if b then .sg [40]::(aH++[.sg [41]]) else aH
def cg:VE->List Atom
 | .num n=>[.num (iH n.toNat)]
 | .eP s=>[.word s.data.toList]
 | .loc _=>[]
 | .hP _=>[]
 | .un op x=>.sg (if op=3 then [45] else [33])::par (di op (bP x) false) (cg x)
 | .bin op x y=>par (di op (bP x) false) (cg x)++(.ws 32::.sg (gh op)::.ws 32::par (di op (bP y) true) (cg y))
def VE.src(N:Kk):Nat->VE->Prop
 | _,.num n=>0<=n/\n<4611686018427387904
 | _,.eP s=>s∈N
 | _,.loc _=>False
 | _,.hP _=>False
 | 0,.un _ _=>False
 | 0,.bin _ _ _=>False
 | d+1,.un op x=>(op=3\/op=4)/\VE.src N d x
 | d+1,.bin op x y=>(5<=op/\op<=17)/\VE.src N d x/\VE.src N d y
def du(N:Kk):Prop:=∀s∈N,bw s.data.toList=true
structure kC(aH:List Atom):Prop where
 chain:Atom.chain aH
 first:∃a,aH.head?=some a/\rI a
 last:∃a,aH.getLast?=some a/\FX a
theorem getLast_append{aH bs:List Atom}(h:bs.getLast?=some a):(aH++bs).getLast?=some a:=by
 rw[List.getLast?_append,h];rfl
theorem head_append{aH bs:List Atom}(h:aH.head?=some a):(aH++bs).head?=some a:=by
 rw[List.head?_append,h];rfl
theorem cC{aH:List Atom}(bE:a.fv)(h:Atom.chain aH)(aA:∀b,aH.head?=some b->a.fits b):Atom.chain (a::aH):=
 dO [a] aH bE h λx b hx O=>by
  simp at hx;subst hx;exact aA b O
theorem cf(h:s∈ef\/s∈eO):(Atom.sg s).fv:=h.symm
theorem kC.par{aH:List Atom}(h:kC aH)(b:Bool):kC (par b aH):=by
 cases b
 .exact h
 .obtain⟨a,bE,hs⟩:=h.first;obtain⟨z,bi,he⟩:=h.last;refine⟨?_,⟨_,rfl,.inr (.inr (.inr rfl))⟩,⟨.sg [41],?_,.inr (.inl rfl)⟩⟩
  .refine cC (cf (.inl (by decide))) (dO _ _ h.chain (cf (.inl (by decide))) λx y hx aa=>?_) λy aa=>?_
   .rw[bi] at hx;injection hx with hx;subst hx;simp at aa;subst aa;exact nr _ he _ (.inl rfl)
   .rw[head_append bE] at aa;injection aa with aa;subst aa;exact mz _ (.inr (.inr (.inl rfl))) _ hs
  .show (Atom.sg [40]::(aH++[Atom.sg [41]])).getLast?=some (.sg [41])
   rw[<-List.cons_append];exact getLast_append rfl
theorem uZ(op:Int):gh op∈ef\/gh op∈eO:=by
 unfold gh
 repeat' split
 all_goals first|exact .inl (by decide)|exact .inr (by decide)
theorem dn(h:bw s=true):(Atom.word s).fv:=by
 cases s with
 | nil=>simp[bw] at h
 | cons c l=>
  simp only[bw,JU,Kc] at h;exact⟨⟨c,l,rfl,h.1.1.1,h.1.1.2⟩,.inr h.1.2⟩
theorem oI{n:Nat}(h:n<=9223372036854775807):(Atom.num (iH n)).fv:=by
 obtain⟨ac,ap⟩:=r7 n;exact⟨ap,ac,by rw[xm n h];omega⟩
theorem DO{aH:List Atom}(hs:s=[45]\/s=[33])(h:kC aH):kC (.sg s::aH):=by
 obtain⟨a,bE,ch⟩:=h.first;obtain⟨z,bi,he⟩:=h.last;refine⟨cC (cf (.inl (by rcases hs with rfl|rfl<;>decide))) h.chain λb O=>?_,⟨_,rfl,by rcases hs with rfl|rfl<;>simp[rI]⟩,⟨z,?_,he⟩⟩
 .rw[bE] at O;injection O with O;subst O;exact mz _ (by rcases hs with rfl|rfl<;>simp) _ ch
 .show ([Atom.sg s]++aH).getLast?=some z
  exact getLast_append bi
theorem dM{N:Kk}(bo:du N):∀(d:Nat) (x:VE),x.src N d->kC (cg x)
 | d,.num n,h=>by
  have F:0<=n/\n<4611686018427387904:=by cases d<;>exact h
  have aS:=oI (n:=n.toNat) ad
  exact⟨aS,⟨_,rfl,.inl ⟨rfl,aS⟩⟩,⟨_,rfl,.inl rfl⟩⟩
 | d,.eP s,h=>by
  have F:s∈N:=by cases d<;>exact h
  have aS:=dn (bo s F)
  exact⟨aS,⟨_,rfl,.inl ⟨rfl,aS⟩⟩,⟨_,rfl,.inl rfl⟩⟩
 | d,.loc _,h=>by cases d<;>exact h.elim
 | d,.hP _,h=>by cases d<;>exact h.elim
 | 0,.un _ _,h=>h.elim
 | 0,.bin _ _ _,h=>h.elim
 | d+1,.un op x,h=>by
  unfold cg
  exact DO (by split<;>simp) ((dM bo d x h.2).par (di op (bP x) false))
 | d+1,.bin op x y,h=>by
  have c:=(dM bo d x h.2.1).par (di op (bP x) false);have i:=(dM bo d y h.2.2).par (di op (bP y) true);unfold cg;generalize par (di op (bP x) false) (cg x)=aH at *;generalize par (di op (bP y) true) (cg y)=bs at *;obtain⟨a,bE,ch⟩:=c.first;obtain⟨z,bi,he⟩:=i.last;refine⟨dO _ _ c.chain ?_ ?_,⟨a,head_append bE,ch⟩,⟨z,getLast_append ?_,he⟩⟩
  .refine cC rfl (cC (cf (uZ op)) (cC rfl i.chain λb _=>nG _ b) λb O=>?_) λb _=>nG _ b;simp at O;subst O;exact nt _ _ rfl
  .intro x y _ aa;simp at aa;subst aa;exact nt _ _ rfl
  .show ([Atom.ws 32,Atom.sg (gh op),Atom.ws 32]++bs).getLast?=some z
   exact getLast_append bi
structure Env where
 af:List bI
 params:List (ByteArray×Bool)
 funcs:List (ByteArray×List (ByteArray×Bool))
def wL(G:Env)(V:Kk)(r:eR):Prop:=
 (∃m∈G.af,m.name=r.name/\(0<m.size->∃e,r.idx=some e/\e.src V 2)/\(¬0<m.size->r.idx=none))\/((r.name,true)∈G.params/\r.idx=none)
def II(G:Env)(V:Kk)(p:ByteArray×Bool):dh->Prop
 | .mx r=>p.2=true/\wL G V r
 | .ex e=>p.2=false/\e.src V 2
def lp(G:Env)(V:Kk):List (ByteArray×Bool)->List dh->Prop
 | [],[]=>True
 | p::ps,a::aH=>II G V p a/\lp G V ps aH
 | _,_=>False
def gr(G:Env):(d:Nat)->(V T:Kk)->an->Prop
 | _,_,_,.nil=>True
 | d,V,T,.set true n e rest=>bw n.data.toList=true/\n∉T/\e.src V 2/\gr G d (V++[n]) (T++[n]) rest
 | d,V,T,.set false n e rest=>n∈V/\e.src V 2/\gr G d V T rest
 | d,V,T,.call _ n aH rest=>(∃ps,(n,ps)∈G.funcs/\lp G V ps aH)/\gr G d V T rest
 | d,V,T,.lock _ r rest=>wL G V r/\gr G d V T rest
 | 0,_,_,.ite ..=>False
 | 0,_,_,.fL ..=>False
 | d+1,V,T,.ite e th el rest=>e.src V 2/\gr G d V T th/\gr G d V T el/\gr G (d+1) V T rest
 | d+1,V,T,.fL e th rest=>e.src V 2/\gr G d V T th/\gr G (d+1) V T rest
 | d,V,T,.ret rest=>gr G d V T rest
def an.isNil:an->Bool
 | .nil=>true
 | _=>false
def an.num:an->Nat
 | .nil=>0
 | .set _ _ _ rest=>rest.num+1
 | .call _ _ _ rest=>rest.num+1
 | .lock _ _ rest=>rest.num+1
 | .ite _ th el rest=>th.num+el.num+rest.num+1
 | .fL _ th rest=>th.num+rest.num+1
 | .ret rest=>rest.num+1
def kw(s:List UInt8):Atom:=.word s
def hA(r:eR):List Atom:=.word r.name.data.toList::(match r.idx with|none=>[]|some e=>.sg [91]::(cg e++[.sg [93]]))
def fk:List UInt8:=[109,117,116,101,120]
def e4:dh->List Atom
 | .mx r=>kw fk::.ws 32::hA r
 | .ex e=>cg e
def dE:List (List Atom)->List Atom
 | []=>[]
 | [a]=>a
 | a::b::l=>a++(.sg [44]::.ws 32::dE (b::l))
def h9(aH:List dh):List Atom:=.sg [40]::(dE (aH.map e4)++[.sg [41]])
def eW(n:Nat):List Atom:=List.replicate n (.ws 9)
def aT:Nat->an->List Atom
 | _,.nil=>[]
 | t,.set v n e rest=>eW t++((if v then [kw [118,97,114],.ws 32] else [])++(.word n.data.toList::.ws 32::.sg [61]::.ws 32::(cg e++(.sg [59]::.ws 10::aT t rest))))
 | t,.call g n aH rest=>eW t++((if g then [kw [103,111],.ws 32] else [])++(.word n.data.toList::(h9 aH++(.sg [59]::.ws 10::aT t rest))))
 | t,.lock u r rest=>eW t++(kw (if u then [117,110,108,111,99,107] else [108,111,99,107])::.ws 32::(hA r++(.sg [59]::.ws 10::aT t rest)))
 | t,.ite e th el rest=>eW t++(kw [105,102]::.ws 32::(cg e++(.ws 32::.sg [123]::.ws 10::(aT (t+1) th++(eW t++(.sg [125] ::
   ((if el.isNil then [] else .ws 32::kw [101,108,115,101]::.ws 32::.sg [123]::.ws 10::(aT (t+1) el++(eW t++[.sg [125]])))++(.ws 10::aT t rest))))))))
 | t,.fL e th rest=>eW t++(kw [119,104,105,108,101]::.ws 32::(cg e++(.ws 32::.sg [123]::.ws 10::(aT (t+1) th++(eW t++(.sg [125]::.ws 10::aT t rest))))))
 | t,.ret rest=>eW t++(kw [114,101,116,117,114,110]::.sg [59]::.ws 10::aT t rest)
theorem eY(h:s∈rR):(kw s).fv:=by
 have key:∀s∈rR,(match s with|[]=>false|c::l=>bQ c && l.all cb)=true:=by decide
 have:=key s h
 cases s with
 | nil=>cases this
 | cons c l=>
  simp only[JU] at this;exact⟨⟨c,l,rfl,this.1,this.2⟩,.inl (by simpa[c9] using h)⟩
section
variable {aH bs:List Atom}
theorem cO(hc:nF c=true)(h:Atom.chain aH):Atom.chain (.ws c::aH):=cC hc h λb _=>nG c b
theorem bW(bE:a.fv)(hc:nF c=true)(h:Atom.chain (.ws c::aH)):Atom.chain (a::.ws c::aH):=
 cC bE h λb O=>by
  simp at O;subst O;exact nt _ _ hc
theorem hB(bE:a.fv)(hl:a.jR=true)(h:Atom.chain (.sg s::aH)):Atom.chain (a::.sg s::aH):=
 cC bE h λb O=>by
  simp at O;subst O;exact vQ _ _ hl rfl
theorem eB(ac:kC aH)(hs:s=[41]\/s=[93]\/s=[59]\/s=[44])(h:Atom.chain (.sg s::bs)):Atom.chain (aH++.sg s::bs):=
 dO _ _ ac.chain h λa b bE O=>by
  obtain⟨z,bi,he⟩:=ac.last;rw[bi] at bE;injection bE with bE;subst bE;simp at O;subst O;exact nr _ he _ hs
theorem pX(ac:Atom.chain aH)(hc:nF c=true)(h:Atom.chain (.ws c::bs)):Atom.chain (aH++.ws c::bs):=
 dO _ _ ac h λa b _ O=>by
  simp at O;subst O;exact nt _ _ hc
theorem np(hs:s=[40]\/s=[91])(ac:kC aH)(h:Atom.chain (aH++bs)):Atom.chain (.sg s::(aH++bs)):=
 cC (cf (.inl (by rcases hs with rfl|rfl<;>decide))) h λb O=>by
  obtain⟨a,bE,ch⟩:=ac.first;rw[head_append bE] at O;injection O with O;subst O;exact mz _ (by rcases hs with rfl|rfl<;>simp) _ ch
def gT(aH:List Atom):Prop:=Atom.chain aH/\∀a,aH.getLast?=some a->∃c,a=.ws c
theorem gT.app(h:gT aH)(O:Atom.chain bs):Atom.chain (aH++bs):=
 dO _ _ h.1 O λa b bE _=>by
  obtain⟨c,rfl⟩:=h.2 a bE;exact nG _ _
theorem fK(n:Nat):gT (eW n):=by
 induction n with
 | zero=>exact⟨trivial,λa h=>by simp[eW] at h⟩
 | succ n ab=>
  refine⟨cO rfl ab.1,λa h=>?_⟩;simp only[eW,List.getLast?_replicate] at h;simp at h;exact⟨9,h.symm⟩
theorem sr(h:∀a,m.getLast?=some a->∃c,a=.ws c)(hm:m≠[])(bE:(l++m).getLast?=some a):∃c,a=.ws c:=by
 rw[List.getLast?_append] at bE
 cases hl:m.getLast? with
 | none=>exact absurd (List.getLast?_eq_none_iff.1 hl) hm
 | some b=>
  rw[hl] at bE;simp at bE;subst bE;exact h _ hl
end
theorem nW{G:Env}{V:Kk}(hV:du V)(hM:∀m∈G.af,bw m.name.data.toList=true)(S:∀p∈G.params,bw p.1.data.toList=true)(r:eR)(h:wL G V r):kC (hA r):=by
 have hn:(Atom.word r.name.data.toList).fv:=by
  rcases h with⟨m,hm,he,_⟩|⟨hp,_⟩
  .rw[<-he];exact dn (hM m hm)
  .exact dn (S _ hp)
 unfold hA
 cases I:r.idx with
 | none=>exact⟨hn,⟨_,rfl,.inl ⟨rfl,hn⟩⟩,⟨_,rfl,.inl rfl⟩⟩
 | some e=>
  have hs:e.src V 2:=by
   exact FL
  have ab:=dM hV 2 e hs;refine⟨hB hn rfl (np (.inr rfl) ab (eB ab (.inr (.inl rfl)) (cf (.inl (by decide))))),⟨_,rfl,.inl ⟨rfl,hn⟩⟩,⟨.sg [93],?_,.inr (.inr rfl)⟩⟩;show ((Atom.word r.name.data.toList::.sg [91]::cg e)++[Atom.sg [93]]).getLast?=_
  exact getLast_append rfl
theorem mm:∀(l:List (List Atom)),(∀a∈l,kC a)->l≠[]->kC (dE l)
 | [],_,h=>absurd rfl h
 | [a],h,_=>h a (by simp)
 | a::b::l,h,_=>by
  have ab:=mm (b::l) (λx hx=>h x (by simp[hx])) (by simp);have bE:=h a (by simp);obtain⟨x,hx,hs⟩:=bE.first;obtain⟨z,bi,he⟩:=ab.last;refine⟨eB bE (.inr (.inr (.inr rfl))) (bW (cf (.inl (by decide))) rfl (cO rfl ab.chain)),⟨x,head_append hx,hs⟩,⟨z,?_,he⟩⟩;show (a++([Atom.sg [44],Atom.ws 32]++dE (b::l))).getLast?=some z
  exact getLast_append (getLast_append bi)
section
variable {G:Env} {V:Kk} (hV:du V) (hM:∀m∈G.af,bw m.name.data.toList=true) (S:∀p∈G.params,bw p.1.data.toList=true)
include hV hM S
theorem tQ(p:ByteArray×Bool)(a:dh)(h:II G V p a):kC (e4 a):=by
 cases a with
 | ex e=>exact dM hV 2 e h.2
 | mx r=>
  have ab:=nW hV hM S r h.2;have aj:(kw fk).fv:=eY (by decide);obtain⟨z,bi,he⟩:=ab.last;refine⟨bW aj rfl (cO rfl ab.chain),⟨_,rfl,.inl ⟨rfl,aj⟩⟩,⟨z,?_,he⟩⟩;show ([kw fk,Atom.ws 32]++hA r).getLast?=some z
  exact getLast_append bi
theorem s9:∀(ps:List (ByteArray×Bool)) (aH:List dh),lp G V ps aH->(∀a∈aH.map e4,kC a)/\aH.length=ps.length
 | [],[],_=>⟨λa h=>by simp at h,rfl⟩
 | p::ps,a::aH,h=>by
  obtain⟨ac,ap⟩:=s9 ps aH h.2;refine⟨λx hx=>?_,by simp[ap]⟩;simp only[JO,JY] at hx;rcases hx with rfl|hx
  .exact tQ hV hM S p a h.1
  .exact ac x hx
 | [],_::_,h=>h.elim
 | _::_,[],h=>h.elim
theorem pC(ps:List (ByteArray×Bool))(aH:List dh)(h:lp G V ps aH){bs:List Atom}(O:Atom.chain (.sg [59]::bs)):Atom.chain (h9 aH++.sg [59]::bs):=by
 have d:Atom.chain (.sg [41]::.sg [59]::bs):=cC (cf (.inl (by decide))) O λb O=>by
  simp at O;subst O;exact nr _ (.inr (.inl rfl)) _ (.inr (.inr (.inl rfl)))
 obtain⟨ac,_⟩:=s9 hV hM S ps aH h
 cases aH with
 | nil=>
  refine cC (cf (.inl (by decide))) d λb O=>?_
  exact FR
 | cons a l=>
  have ab:=mm ((a::l).map e4) ac (by simp);show Atom.chain (Atom.sg [40]::((dE ((a::l).map e4)++[Atom.sg [41]])++Atom.sg [59]::bs))
  rw[JW];exact np (.inl rfl) ab (eB ab (.inl rfl) d)
end
def kD(l:List Atom):Prop:=l≠[]/\∀a,l.getLast?=some a->∃c,a=.ws c
theorem kD.cons{x:Atom}(h:kD l):kD (x::l):=
 ⟨by simp,λa bE=>sr (l:=[x]) h.2 h.1 (by simpa using bE)⟩
theorem kD.app(h:kD m):kD (l++m):=
 ⟨by have:=h.1;simp[this],λa bE=>sr h.2 h.1 bE⟩
theorem kD.nl(h:∀a,l.getLast?=some a->∃c,a=.ws c):kD (.ws 10::l):=by
 refine⟨by simp,λa bE=>?_⟩
 cases l with
 | nil=>simp at bE;exact⟨10,bE.symm⟩
 | cons x l=>exact h a (by rw[List.getLast?_cons_cons] at bE;exact bE)
theorem dx:∀(b:an) (t:Nat) (a:Atom),(aT t b).getLast?=some a->∃c,a=.ws c
 | .nil,t,a,h=>by simp[aT] at h
 | .set v n e rest,t,a,h=>by
  unfold aT at h
  exact(kD.app (.app (.cons (.cons (.cons (.cons (.app (.cons (.nl (dx rest t)))))))))).2 a h
 | .call g n aH rest,t,a,h=>by
  unfold aT at h
  exact(kD.app (.app (.cons (.app (.cons (.nl (dx rest t))))))).2 a h
 | .lock u r rest,t,a,h=>by
  unfold aT at h
  exact(kD.app (.cons (.cons (.app (.cons (.nl (dx rest t))))))).2 a h
 | .ite e th el rest,t,a,h=>by
  unfold aT at h
  exact(kD.app (.cons (.cons (.app (.cons (.cons (.cons (.app (.app (.cons (.app (.nl (dx rest t))))))))))))).2 a h
 | .fL e th rest,t,a,h=>by
  unfold aT at h
  exact(kD.app (.cons (.cons (.app (.cons (.cons (.cons (.app (.app (.cons (.nl (dx rest t)))))))))))).2 a h
 | .ret rest,t,a,h=>by
  unfold aT at h;exact(kD.app (.cons (.cons (.nl (dx rest t))))).2 a h
structure mH(G:Env):Prop where
 af:∀m∈G.af,bw m.name.data.toList=true
 params:∀p∈G.params,bw p.1.data.toList=true
 funcs:∀f∈G.funcs,bw f.1.data.toList=true/\f.2.length<=2
theorem jq{V:Kk}{n:ByteArray}(h:du V)(hn:bw n.data.toList=true):du (V++[n]):=by
 intro s hs;simp only[JR,J9] at hs;rcases hs with hs|rfl
 .exact h s hs
 .exact hn
theorem cM{G:Env}(hG:mH G):∀(b:an) (d t:Nat) (V T:Kk),du V->gr G d V T b->Atom.chain (aT t b)
 | .nil,d,t,V,T,_,_=>trivial
 | .set v n e rest,d,t,V,T,hV,h=>by
  have a:(Atom.sg [59]).fv:=cf (.inl (by decide));have f:(Atom.sg [61]).fv:=cf (.inl (by decide));unfold aT
  cases v with
  | true=>
   have F:bw n.data.toList=true/\n∉T/\e.src V 2/\gr G d (V++[n]) (T++[n]) rest:=by cases d<;>exact h
   have ab:=cM hG rest d t _ _ (jq hV F.1) F.2.2.2;have ar:=dM hV 2 e F.2.2.1
   exact(fK t).app (bW (eY (by decide)) rfl (cO rfl (bW (dn F.1) rfl (cO rfl (bW f rfl (cO rfl (eB ar (.inr (.inr (.inl rfl))) (bW a rfl (cO rfl ab)))))))))
  | false=>
   have F:n∈V/\e.src V 2/\gr G d V T rest:=by cases d<;>exact h
   have ab:=cM hG rest d t _ _ hV F.2.2;have ar:=dM hV 2 e F.2.1
   exact(fK t).app (bW (dn (hV n F.1)) rfl (cO rfl (bW f rfl (cO rfl (eB ar (.inr (.inr (.inl rfl))) (bW a rfl (cO rfl ab)))))))
 | .call g n aH rest,d,t,V,T,hV,h=>by
  have F:(∃ps,(n,ps)∈G.funcs/\lp G V ps aH)/\gr G d V T rest:=by cases d<;>exact h
  obtain⟨⟨ps,aA,has⟩,aZ⟩:=F;have ab:=cM hG rest d t _ _ hV aZ;have a:(Atom.sg [59]).fv:=cf (.inl (by decide));have bu:=pC hV hG.af hG.params ps aH has (bW a rfl (cO (c:=10) rfl ab));have ba:Atom.chain (.word n.data.toList::(h9 aH++(.sg [59]::.ws 10::aT t rest))):=hB (dn (hG.funcs _ aA).1) rfl bu;unfold aT
  cases g with
  | true=>exact(fK t).app (bW (eY (by decide)) rfl (cO rfl ba))
  | false=>exact(fK t).app ba
 | .lock u r rest,d,t,V,T,hV,h=>by
  have F:wL G V r/\gr G d V T rest:=by cases d<;>exact h
  have ab:=cM hG rest d t _ _ hV F.2;have cq:=nW hV hG.af hG.params r F.1;have a:(Atom.sg [59]).fv:=cf (.inl (by decide));unfold aT
  exact(fK t).app (bW (eY (by cases u<;>decide)) rfl (cO rfl (eB cq (.inr (.inr (.inl rfl))) (bW a rfl (cO rfl ab)))))
 | .ite e th el rest,0,t,V,T,hV,h=>h.elim
 | .fL e th rest,0,t,V,T,hV,h=>h.elim
 | .ite e th el rest,d+1,t,V,T,hV,h=>by
  have j:=cM hG th d (t+1) _ _ hV h.2.1;have o:=cM hG el d (t+1) _ _ hV h.2.2.1;have ab:=cM hG rest (d+1) t _ _ hV h.2.2.2;have ar:=dM hV 2 e h.1;have k:(Atom.sg [123]).fv:=cf (.inl (by decide));have i:(Atom.sg [125]).fv:=cf (.inl (by decide));have e1:gT (aT (t+1) th):=⟨j,dx th _⟩
  have e2:gT (aT (t+1) el):=⟨o,dx el _⟩
  have ck:Atom.chain (.ws 10::aT t rest):=cO rfl ab;have tail:Atom.chain (.sg [125]::((if el.isNil then [] else .ws 32::kw [101,108,115,101]::.ws 32::.sg [123]::.ws 10::(aT (t+1) el++(eW t++[.sg [125]])))++(.ws 10::aT t rest))):=by
   have ce:Atom.chain (.sg [125]::((.ws 32::kw [101,108,115,101]::.ws 32::.sg [123]::.ws 10::(aT (t+1) el++(eW t++[.sg [125]])))++(.ws 10::aT t rest))):=by
    refine bW i rfl (cO rfl (bW (eY (by decide)) rfl (cO rfl (bW k rfl (cO rfl ?_)))));show Atom.chain ((aT (t+1) el++(eW t++[Atom.sg [125]]))++(Atom.ws 10::aT t rest))
    rw[JW,JW];exact e2.app ((fK t).app (bW i rfl ck))
   split
   .exact bW i rfl ck
   .exact ce
  unfold aT
  exact(fK t).app (bW (eY (by decide)) rfl (cO rfl (pX ar.chain rfl (cO rfl (bW k rfl (cO rfl (e1.app ((fK t).app tail))))))))
 | .fL e th rest,d+1,t,V,T,hV,h=>by
  have j:=cM hG th d (t+1) _ _ hV h.2.1;have ab:=cM hG rest (d+1) t _ _ hV h.2.2;have ar:=dM hV 2 e h.1;have k:(Atom.sg [123]).fv:=cf (.inl (by decide));have i:(Atom.sg [125]).fv:=cf (.inl (by decide));have e1:gT (aT (t+1) th):=⟨j,dx th _⟩
  unfold aT
  exact(fK t).app (bW (eY (by decide)) rfl (cO rfl (pX ar.chain rfl (cO rfl (bW k rfl (cO rfl (e1.app ((fK t).app (bW i rfl (cO rfl ab))))))))))
 | .ret rest,d,t,V,T,hV,h=>by
  have F:gr G d V T rest:=by cases d<;>exact h
  have ab:=cM hG rest d t _ _ hV F;have a:(Atom.sg [59]).fv:=cf (.inl (by decide));unfold aT;exact(fK t).app (hB (eY (by decide)) rfl (bW a rfl (cO rfl ab)))
theorem iI:∀(k n:Nat),n<10 ^ (k+1)->(iH n).length<=k+1
 | k,n,h=>by
  rw[iH];split
  .simp
  .cases k with
   | zero=>simp at h;omega
   | succ k=>
    have:=iI k (n / 10) (by rw[Nat.div_lt_iff_lt_mul ad,<-Nat.pow_succ];exact h);simp;omega
 termination_by k=>k
theorem dW(h:bw s=true):s.length<=16:=by
 simp only[bw,JU,Kc] at h;exact h.1.2
def ff(aH:List Atom):Nat:=(aQ aH).length
theorem br(aH bs:List Atom):ff (aH++bs)=ff aH+ff bs:=by unfold ff;rw[a2,JK]
theorem a9(a:Atom)(bs:List Atom):ff (a::bs)=a.bytes.length+ff bs:=by unfold ff;rw[aZ,JK]
theorem ct:ff []=0:=rfl
theorem cy(c:UInt8)(aH:List Atom):Atom.count (.ws c::aH)=Atom.count aH:=rfl
theorem cT(c:List UInt8)(aH:List Atom):Atom.count (.word c::aH)=Atom.count aH+1:=rfl
theorem mf(c:List UInt8)(aH:List Atom):Atom.count (.num c::aH)=Atom.count aH+1:=rfl
theorem ch(c:List UInt8)(aH:List Atom):Atom.count (.sg c::aH)=Atom.count aH+1:=rfl
theorem dA(c:List UInt8)(aH:List Atom):Atom.count (kw c::aH)=Atom.count aH+1:=rfl
theorem count_nil:Atom.count []=0:=rfl
theorem eb(c:UInt8):(Atom.ws c).bytes.length=1:=rfl
theorem dV(c:List UInt8):(Atom.word c).bytes.length=c.length:=rfl
theorem fY(c:List UInt8):(kw c).bytes.length=c.length:=rfl
theorem rq(c:List UInt8):(Atom.num c).bytes.length=c.length:=rfl
theorem dF(c:List UInt8):(Atom.sg c).bytes.length=c.length:=rfl
def cE:Nat->Nat
 | 0=>1
 | d+1=>2*(cE d+2)+1
def bE:Nat->Nat
 | 0=>19
 | d+1=>2*(bE d+2)+4
theorem CF:∀d,1<=cE d
 | 0=>JI _
 | d+1=>by unfold cE;omega
theorem tT:∀d,19<=bE d
 | 0=>JI _
 | d+1=>by have:=tT d;unfold bE;omega
theorem mv(b:Bool)(aH:List Atom):Atom.count (par b aH)<=Atom.count aH+2/\ff (par b aH)<=ff aH+2:=by
 cases b
 .exact⟨by simp[par],by simp[par]⟩
 .simp only[par,if_true,ch,count_append,a9,br,ct,dF,count_nil,JV,J1];omega
theorem DA(op:Int):(gh op).length<=2:=by
 unfold gh
 repeat' split
 all_goals decide
theorem cZ{N:Kk}(bo:du N):∀(d:Nat) (x:VE),x.src N d->Atom.count (cg x)<=cE d/\ff (cg x)<=bE d
 | d,.num n,h=>by
  have F:0<=n/\n<4611686018427387904:=by cases d<;>exact h
  have:=iI 18 n.toNat ad;have ac:=CF d;have ap:=tT d;simp only[cg,mf,count_nil,a9,ct,rq]
  omega
 | d,.eP s,h=>by
  have F:s∈N:=by cases d<;>exact h
  have:=dW (bo s F);have ac:=CF d;have ap:=tT d;simp only[cg,cT,count_nil,a9,ct,dV]
  omega
 | d,.loc _,h=>by cases d<;>exact h.elim
 | d,.hP _,h=>by cases d<;>exact h.elim
 | 0,.un _ _,h=>h.elim
 | 0,.bin _ _ _,h=>h.elim
 | d+1,.un op x,h=>by
  have ab:=cZ bo d x h.2;have hp:=mv (di op (bP x) false) (cg x);have hs:(if op=3 then [45] else [33]:List UInt8).length=1:=by split<;>rfl
  simp only[cg,ch,a9,dF,hs,cE,bE]
  omega
 | d+1,.bin op x y,h=>by
  have c:=cZ bo d x h.2.1;have i:=cZ bo d y h.2.2;have hp:=mv (di op (bP x) false) (cg x);have bx:=mv (di op (bP y) true) (cg y);have hs:=DA op;simp only[cg,count_append,cy,ch,br,a9,eb,dF,cE,bE];omega
section
variable {G:Env} {V:Kk} (hV:du V) (hG:mH G)
include hV hG
theorem ly(r:eR)(h:wL G V r):Atom.count (hA r)<=22/\ff (hA r)<=118:=by
 have hn:bw r.name.data.toList=true:=by
  rcases h with⟨m,hm,he,_⟩|⟨hp,_⟩
  .rw[<-he];exact hG.af m hm
  .exact hG.params _ hp
 have hl:=dW hn;unfold hA
 cases I:r.idx with
 | none=>
  exact yB
 | some e=>
  have hs:e.src V 2:=by
   exact FL
  have ab:=cZ hV 2 e hs;simp only[cE,bE] at ab;simp only[cT,ch,count_append,count_nil,a9,br,ct,dV,dF,JV,J1];omega
theorem lx(p:ByteArray×Bool)(a:dh)(h:II G V p a):Atom.count (e4 a)<=23/\ff (e4 a)<=124:=by
 cases a with
 | ex e=>
  have ab:=cZ hV 2 e h.2;simp only[cE,bE] at ab;show Atom.count (cg e)<=23/\ff (cg e)<=124
  omega
 | mx r=>
  have ab:=ly hV hG r h.2;simp only[e4,dA,cy,a9,fY,eb];have:fk.length=5:=rfl;omega
theorem mT:∀(ps:List (ByteArray×Bool)) (aH:List dh),lp G V ps aH->Atom.count (dE (aH.map e4))<=24*ps.length/\ff (dE (aH.map e4))<=126*ps.length
 | [],[],_=>⟨JI _,JI _⟩
 | [p],[a],h=>by
  have:=lx hV hG p a h.1;simp only[JO,J5,dE,JV,J1]
  omega
 | p::q::ps,a::b::aH,h=>by
  have ac:=lx hV hG p a h.1;have ab:=mT (q::ps) (b::aH) h.2;simp only[JO] at ab;simp only[JO,dE,count_append,ch,cy,br,a9,dF,eb,JV,J1] at ab ⊢
  omega
 | [],_::_,h=>h.elim
 | _::_,[],h=>h.elim
 | [_],_::_::_,h=>h.2.elim
 | _::_::_,[_],h=>h.2.elim
theorem pD(ps:List (ByteArray×Bool))(aH:List dh)(h:lp G V ps aH)(hp:ps.length<=2):Atom.count (h9 aH)<=50/\ff (h9 aH)<=254:=by
 have:=mT hV hG ps aH h;simp only[h9,ch,count_append,count_nil,a9,br,ct,dF,JV,J1];omega
end
theorem gj(t:Nat):Atom.count (eW t)=0/\ff (eW t)=t:=by
 induction t with
 | zero=>exact⟨rfl,rfl⟩
 | succ t ab=>
  have e:eW (t+1)=.ws 9::eW t:=rfl;rw[e,cy,a9,eb];omega
theorem cN{G:Env}(hG:mH G):∀(b:an) (d t:Nat) (V T:Kk),du V->t+d<=8->gr G d V T b->Atom.count (aT t b)<=53*b.num/\ff (aT t b)<=400*b.num
 | .nil,d,t,V,T,_,_,_=>⟨JI _,JI _⟩
 | .set v n e rest,d,t,V,T,hV,ht,h=>by
  have cS:=gj t
  cases v with
  | true=>
   have F:bw n.data.toList=true/\n∉T/\e.src V 2/\gr G d (V++[n]) (T++[n]) rest:=by cases d<;>exact h
   have ab:=cN hG rest d t _ _ (jq hV F.1) ht F.2.2.2;have ar:=cZ hV 2 e F.2.2.1;have hn:=dW F.1;simp only[cE,bE] at ar;simp only[aT,if_true,count_append,dA,cy,cT,ch,count_nil,br,a9,ct,fY,eb,dV,dF,an.num,JV,J1]
   omega
  | false=>
   have F:n∈V/\e.src V 2/\gr G d V T rest:=by cases d<;>exact h
   have ab:=cN hG rest d t _ _ hV ht F.2.2;have ar:=cZ hV 2 e F.2.1;have hn:=dW (hV n F.1);simp only[cE,bE] at ar;simp only[aT,Kd,if_false,count_append,cy,cT,ch,count_nil,br,a9,ct,eb,dV,dF,an.num,JV,J1]
   omega
 | .call g n aH rest,d,t,V,T,hV,ht,h=>by
  have cS:=gj t;have F:(∃ps,(n,ps)∈G.funcs/\lp G V ps aH)/\gr G d V T rest:=by cases d<;>exact h
  obtain⟨⟨ps,aA,has⟩,aZ⟩:=F;have ab:=cN hG rest d t _ _ hV ht aZ;have bu:=pD hV hG ps aH has (hG.funcs _ aA).2;have hn:=dW (hG.funcs _ aA).1;cases g<;>
  .simp only[aT,Kd,if_false,if_true,count_append,dA,cy,cT,ch,count_nil,br,a9,ct,fY,eb,dV,dF,an.num,JV,J1];simp only[] at hn
   omega
 | .lock u r rest,d,t,V,T,hV,ht,h=>by
  have cS:=gj t;have F:wL G V r/\gr G d V T rest:=by cases d<;>exact h
  have ab:=cN hG rest d t _ _ hV ht F.2;have cq:=ly hV hG r F.1;cases u<;>
  .simp only[aT,Kd,if_false,if_true,count_append,dA,cy,ch,br,a9,fY,eb,dF,an.num,JV,J1]
   omega
 | .ite e th el rest,0,t,V,T,hV,ht,h=>h.elim
 | .fL e th rest,0,t,V,T,hV,ht,h=>h.elim
 | .ite e th el rest,d+1,t,V,T,hV,ht,h=>by
  have cS:=gj t;have j:=cN hG th d (t+1) _ _ hV ad h.2.1;have o:=cN hG el d (t+1) _ _ hV ad h.2.2.1;have ab:=cN hG rest (d+1) t _ _ hV ht h.2.2.2;have ar:=cZ hV 2 e h.1;simp only[cE,bE] at ar;cases hn:el.isNil<;>
  .simp only[aT,hn,Kd,if_false,if_true,JX,J8,count_append,dA,cy,ch,count_nil,br,a9,ct,fY,eb,dF,an.num,JV,J1]
   omega
 | .fL e th rest,d+1,t,V,T,hV,ht,h=>by
  have cS:=gj t;have j:=cN hG th d (t+1) _ _ hV ad h.2.1;have ab:=cN hG rest (d+1) t _ _ hV ht h.2.2;have ar:=cZ hV 2 e h.1;simp only[cE,bE] at ar;simp only[aT,count_append,dA,cy,ch,br,a9,fY,eb,dF,an.num,JV,J1]
  omega
 | .ret rest,d,t,V,T,hV,ht,h=>by
  have cS:=gj t;have F:gr G d V T rest:=by cases d<;>exact h
  have ab:=cN hG rest d t _ _ hV ht F;simp only[aT,count_append,dA,cy,ch,br,a9,fY,eb,dF,an.num,JV,J1];omega
def gS(n:Int):List Atom:=if n<0 then [.sg [45],.num (iH n.natAbs)] else [.num (iH n.toNat)]
def gQ(g:ByteArray×Int):List Atom:=kw [118,97,114]::.ws 32::.word g.1.data.toList::((if g.2=0 then [] else .ws 32::.sg [61]::.ws 32::gS g.2)++[.sg [59],.ws 10])
def gR(m:bI):List Atom:=kw (if m.re then [114,109,117,116,101,120] else fk)::.ws 32::.word m.name.data.toList::((if 0<m.size then .sg [91]::(gS m.size++[.sg [93]]) else [])++[.sg [59],.ws 10])
def fW(p:ByteArray×Bool):List Atom:=if p.2 then [kw fk,.ws 32,.word p.1.data.toList] else [.word p.1.data.toList]
def gP(f:a1):List Atom:=kw [102,117,110,99]::.ws 32::.word f.name.data.toList::.sg [40]::(dE (f.params.map fW)++(.sg [41]::.ws 32::.sg [123]::.ws 10::(aT 1 f.body++[.sg [125],.ws 10])))
def e5(p:bC):List Atom:=p.globals.flatMap gQ++(p.af.flatMap gR++p.funcs.flatMap gP)
def gU(p:bC):List ByteArray:=p.globals.map (·.1)
def bF(p:bC):List ByteArray:=gU p++p.af.map (·.name)++p.funcs.map (·.name)
def sigs(p:bC):List (ByteArray×List (ByteArray×Bool)):=p.funcs.map λf=>(f.name,f.params)
def kI(p:bC)(f:a1):Env:=⟨p.af,f.params,sigs p⟩
def hR(ps:List (ByteArray×Bool)):List ByteArray:=(ps.filter λq=>!q.2).map (·.1)
structure Jx(p:bC)(f:a1):Prop where
 params:∀q∈f.params,bw q.1.data.toList=true
 iN:f.params.length<=2
 fresh:(bF p++f.params.map (·.1)).Nodup
 body:gr (kI p f) 4 (gU p++hR f.params) (bF p++f.params.map (·.1)) f.body
structure nE(p:bC):Prop where
 names:∀s∈bF p,bw s.data.toList=true
 nodup:(bF p).Nodup
 lN:p.globals.length<=16
 uC:p.af.length<=12
 xl:p.funcs.length<=16
 inits:∀g∈p.globals,-9223372036854775807<=g.2/\g.2<=9223372036854775807
 gE:∀m∈p.af,0<=m.size/\m.size<=64/\(m.re=true->m.size=0)
 funcs:∀f∈p.funcs,Jx p f
 main:∃(i:Nat) (f:a1),p.funcs[i]?=some f/\f.name=⟨#[109,97,105,110]⟩/\f.params=[]
 iN:(p.funcs.map λf=>f.body.num).sum<=64
theorem nE.env(h:nE p)(aA:f∈p.funcs):mH (kI p f) where
 af:=λm hm=>h.names _ (by simp only[bF,JR,J6];exact .inl (.inr ⟨m,hm,rfl⟩))
 params:=(h.funcs f aA).params
 funcs:=λg aS=>by
  obtain⟨k,aj,rfl⟩:=J6.1 aS;exact⟨h.names _ (by simp only[bF,JR,J6];exact .inr ⟨k,aj,rfl⟩),(h.funcs k aj).iN⟩
theorem nE.vars(h:nE p)(aA:f∈p.funcs):du (gU p++hR f.params):=by
 intro s hs;rcases JR.1 hs with hs|hs
 .exact h.names _ (by simp only[bF,JR];exact .inl (.inl hs))
 .obtain⟨q,bx,rfl⟩:=J6.1 hs;exact(h.funcs f aA).params q (List.mem_filter.1 bx).1
theorem jk{α:Type}(f:α->List Atom):∀(l:List α),(∀x∈l,gT (f x))->gT (l.flatMap f)
 | [],_=>⟨trivial,λa h=>by simp at h⟩
 | x::l,h=>by
  have ab:=jk f l λy aa=>h y (by simp[aa]);have hx:=h x (by simp);refine⟨hx.app ab.1,λa bE=>?_⟩;rw[J2,List.getLast?_append] at bE
  cases hl:(l.flatMap f).getLast? with
  | none=>rw[hl] at bE;exact hx.2 a (by simpa using bE)
  | some b=>
   rw[hl] at bE;simp at bE;subst bE;exact ab.2 b hl
theorem jl{α:Type}(f:α->List Atom)(g:α->Nat)(c k:Nat):∀(l:List α),(∀x∈l,Atom.count (f x)<=c+53*g x/\ff (f x)<=k+400*g x)->
  Atom.count (l.flatMap f)<=c*l.length+53*(l.map g).sum/\ff (l.flatMap f)<=k*l.length+400*(l.map g).sum
 | [],_=>⟨by simp[count_nil],by simp[ct]⟩
 | x::l,h=>by
  have ab:=jl f g c k l λy aa=>h y (by simp[aa]);have hx:=h x (by simp);simp only[J2,count_append,br,JV,JO,List.sum_cons,Nat.mul_add,Nat.mul_one];omega
theorem G3{α:Type}(l:List α):(l.map λ_=>0).sum=0:=by induction l<;>simp_all
theorem nX(n:Int)(h:-9223372036854775807<=n/\n<=9223372036854775807):kC (gS n)/\Atom.count (gS n)<=2/\ff (gS n)<=20:=by
 unfold gS;split
 .have aS:=oI (n:=n.natAbs) ad;have hl:=iI 18 n.natAbs ad;refine⟨DO (.inl rfl) ⟨aS,⟨_,rfl,.inl ⟨rfl,aS⟩⟩,⟨_,rfl,.inl rfl⟩⟩,?_,?_⟩
  .simp only[ch,mf,count_nil];omega
  .simp only[a9,ct,dF,rq,JV,J1];omega
 .have aS:=oI (n:=n.toNat) ad;have hl:=iI 18 n.toNat ad;refine⟨⟨aS,⟨_,rfl,.inl ⟨rfl,aS⟩⟩,⟨_,rfl,.inl rfl⟩⟩,?_,?_⟩
  .simp only[mf,count_nil];omega
  .simp only[a9,ct,rq];omega
theorem EV:Atom.chain [.sg [59],.ws 10]:=bW (cf (.inl (by decide))) rfl rfl
theorem pU(g:ByteArray×Int)(hn:bw g.1.data.toList=true)(h:-9223372036854775807<=g.2/\g.2<=9223372036854775807):gT (gQ g)/\Atom.count (gQ g)<=6/\ff (gQ g)<=50:=by
 have hl:=dW hn;obtain⟨bi,hc,O⟩:=nX g.2 h;have aj:(kw [118,97,114]).fv:=eY (by decide);refine⟨⟨?_,λa bE=>?_⟩,?_⟩
 .unfold gQ;refine bW aj rfl (cO rfl ?_);split
  .exact hB (dn hn) rfl EV
  .exact bW (dn hn) rfl (cO rfl (bW (cf (.inl (by decide))) rfl (cO rfl (eB bi (.inr (.inr (.inl rfl))) EV))))
 .unfold gQ at bE;exact yl
 .unfold gQ;have aD:([118,97,114]:List UInt8).length=3:=rfl;split
  .simp only[J8,dA,cy,cT,ch,count_nil,a9,ct,fY,eb,dV,dF,JV,J1];omega
  .simp only[JX,dA,cy,cT,ch,count_append,count_nil,a9,br,ct,fY,eb,dV,dF,JV,J1];omega
theorem pV(m:bI)(hn:bw m.name.data.toList=true)(h:0<=m.size/\m.size<=64):gT (gR m)/\Atom.count (gR m)<=7/\ff (gR m)<=50:=by
 have hl:=dW hn;obtain⟨bi,hc,O⟩:=nX m.size ad;have aj:(kw (if m.re then [114,109,117,116,101,120] else fk)).fv:=eY (by split<;>decide);have bM:(if m.re then [114,109,117,116,101,120] else fk:List UInt8).length<=6:=by split<;>decide
 refine⟨⟨?_,λa bE=>?_⟩,?_⟩
 .unfold gR;refine bW aj rfl (cO rfl ?_);split
  .simp only[JX,JW];refine hB (dn hn) rfl (np (.inr rfl) bi (eB bi (.inr (.inl rfl)) (cC (cf (.inl (by decide))) EV λb O=>?_)));simp at O;subst O;exact nr _ (.inr (.inr rfl)) _ (.inr (.inr (.inl rfl)))
  .exact hB (dn hn) rfl EV
 .unfold gR at bE;exact yl
 .unfold gR;generalize (if m.re then [114,109,117,116,101,120] else fk:List UInt8)=s at *;split
  .simp only[JX,dA,cy,cT,ch,count_append,count_nil,a9,br,ct,fY,eb,dV,dF,JV,J1];omega
  .simp only[J8,dA,cy,cT,ch,count_nil,a9,ct,fY,eb,dV,dF,JV,J1];omega
theorem l9(p:ByteArray×Bool)(hn:bw p.1.data.toList=true):kC (fW p)/\Atom.count (fW p)<=2/\ff (fW p)<=22:=by
 have hl:=dW hn;have hw:=dn hn;have aj:(kw fk).fv:=eY (by decide);have cl:fk.length=5:=rfl;unfold fW;split
 .refine⟨⟨bW aj rfl (cO rfl hw),⟨_,rfl,.inl ⟨rfl,aj⟩⟩,⟨_,rfl,.inl rfl⟩⟩,?_⟩;simp only[dA,cy,cT,count_nil,a9,ct,fY,eb,dV];omega
 .refine⟨⟨hw,⟨_,rfl,.inl ⟨rfl,hw⟩⟩,⟨_,rfl,.inl rfl⟩⟩,?_⟩;exact yB
theorem mU:∀(l:List (ByteArray×Bool)),(∀q∈l,bw q.1.data.toList=true)->Atom.count (dE (l.map fW))<=3*l.length/\ff (dE (l.map fW))<=24*l.length
 | [],_=>⟨JI _,JI _⟩
 | [p],h=>by
  have:=(l9 p (h p (by simp))).2;simp only[JO,J5,dE,JV,J1]
  omega
 | p::q::l,h=>by
  have ac:=(l9 p (h p (by simp))).2;have ab:=mU (q::l) λx hx=>h x (by simp[hx]);simp only[JO] at ab;simp only[JO,dE,count_append,ch,cy,br,a9,dF,eb,JV,J1] at ab ⊢;omega
theorem pT(hp:nE p)(aA:f∈p.funcs):gT (gP f)/\Atom.count (gP f)<=13+53*f.body.num/\ff (gP f)<=80+400*f.body.num:=by
 have hF:=hp.funcs f aA;have hn:bw f.name.data.toList=true:=hp.names _ (by simp only[bF,JR,J6];exact .inr ⟨f,aA,rfl⟩);have hl:=dW hn;have hc:=cM (hp.env aA) f.body 4 1 _ _ (hp.vars aA) hF.body;have aj:=cN (hp.env aA) f.body 4 1 _ _ (hp.vars aA) ad hF.body;have bx:=mU f.params hF.params;have L:=hF.iN;have k:(Atom.sg [123]).fv:=cf (.inl (by decide));have i:Atom.chain [.sg [125],.ws 10]:=bW (cf (.inl (by decide))) rfl rfl;have e1:gT (aT 1 f.body):=⟨hc,dx f.body 1⟩
 have tail:Atom.chain (.sg [41]::.ws 32::.sg [123]::.ws 10::(aT 1 f.body++[.sg [125],.ws 10])):=
  bW (cf (.inl (by decide))) rfl (cO rfl (bW k rfl (cO rfl (e1.app i))))
 refine⟨⟨?_,λa bE=>?_⟩,?_⟩
 .unfold gP;refine bW (eY (by decide)) rfl (cO rfl (hB (dn hn) rfl ?_))
  cases b3:f.params with
  | nil=>
   refine cC (cf (.inl (by decide))) tail λb O=>?_
   exact FR
  | cons q l=>
   have hs:kC (dE ((q::l).map fW)):=mm _ (λa bE=>by
    obtain⟨x,hx,rfl⟩:=J6.1 bE;exact(l9 x (hF.params x (by rw[b3];exact hx))).1) (by simp)
   exact np (.inl rfl) hs (eB hs (.inl rfl) tail)
 .unfold gP at bE;exact(kD.cons (.cons (.cons (.cons (.app (.cons (.cons (.cons (.cons (.app (.cons (.nl (l:=[]) λa h=>by simp at h)))))))))))).2 a bE
 .have bt:([102,117,110,99]:List UInt8).length=4:=rfl;simp only[gP,dA,cy,cT,ch,count_append,count_nil,a9,br,ct,fY,eb,dV,dF,JV,J1];omega
theorem sI(hp:nE p):(cd (aQ (e5 p))).2.2=0:=by
 have aS:∀g∈p.globals,bw g.1.data.toList=true:=λg h=>hp.names _ (by simp only[bF,gU,JR,J6];exact .inl (.inl ⟨g,h,rfl⟩));have hm:∀m∈p.af,bw m.name.data.toList=true:=λm h=>hp.names _ (by simp only[bF,JR,J6];exact .inl (.inr ⟨m,h,rfl⟩));have c1:=jk gQ p.globals λg h=>(pU g (aS g h) (hp.inits g h)).1;have c2:=jk gR p.af λm h=>(pV m (hm m h) ⟨(hp.gE m h).1,(hp.gE m h).2.1⟩).1;have c3:=jk gP p.funcs λf h=>(pT hp h).1;have cp:=jl gQ (λ_=>0) 6 50 p.globals λg h=>by have:=(pU g (aS g h) (hp.inits g h)).2;omega
 have bE:=jl gR (λ_=>0) 7 50 p.af λm h=>by have:=(pV m (hm m h) ⟨(hp.gE m h).1,(hp.gE m h).2.1⟩).2;omega
 have cB:=jl gP (λf=>f.body.num) 13 80 p.funcs λf h=>(pT hp h).2;rw[G3] at cp bE;have n1:=hp.lN;have n2:=hp.uC;have n3:=hp.xl;have n4:=hp.iN;have hlen:(aQ (e5 p)).length<=262144:=by
  have:ff (e5 p)=ff (p.globals.flatMap gQ)+(ff (p.af.flatMap gR)+ff (p.funcs.flatMap gP)):=by unfold e5;rw[br,br]
  unfold ff at this cp bE cB;omega
 unfold cd;rw[if_neg ad];refine uq (e5 p) _ _ [] ?_ (Nat.lt_succ_self _) ?_
 .exact c1.app (c2.app c3.1)
 .unfold e5;rw[count_append,count_append];simp only[J1];omega
end Go.Proofs.YtnigabjngpnbiaaGreat
