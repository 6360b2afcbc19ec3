/- Part 7 of the proof. No condition of its own. -/
import Derived.Test.YtbkhhfajcgkpgaaGreatQ06
namespace Go.Proofs.YtbkhhfajcgkpgaaGreat
open Go.RowKit Go.Proofs.Tryz
set_option maxRecDepth 1000000
set_option maxHeartbeats 25600000
set_option linter.unusedVariables false
variable{f:az}{p:bB}
theorem jh:∀(k n:Nat),n<10 ^ (k+1)→(jg n).length≤k+1
 | k,n,h=>by
  rw[jg];split
  ·simp
  ·cases k with
   | zero=>simp at h;omega
   | succ k=>
    have:=jh k (n / 10) (by rw[Nat.div_lt_iff_lt_mul ab,←Nat.pow_succ];exact h);simp;omega
 termination_by k=>k
theorem eh{s:List UInt8}(h:bp s=true):s.length≤16:=by
 simp only[bp,J2,Kk] at h;exact h.1.2
def fu(aS:List Atom):Nat:=(aR aS).length
theorem bo(aS f:List Atom):fu (aS++f)=fu aS+fu f:=by unfold fu;rw[aY,JS]
theorem bc(a:Atom)(f:List Atom):fu (a::f)=a.bytes.length+fu f:=by unfold fu;rw[aX,JS]
theorem cp:fu []=0:=rfl
theorem cD(c:UInt8)(aS:List Atom):Atom.count (.ws c::aS)=Atom.count aS:=rfl
theorem cS(c:List UInt8)(aS:List Atom):Atom.count (.word c::aS)=Atom.count aS+1:=rfl
theorem mU(c:List UInt8)(aS:List Atom):Atom.count (.num c::aS)=Atom.count aS+1:=rfl
theorem ca(c:List UInt8)(aS:List Atom):Atom.count (.sg c::aS)=Atom.count aS+1:=rfl
theorem dK(c:List UInt8)(aS:List Atom):Atom.count (kw c::aS)=Atom.count aS+1:=rfl
theorem count_nil:Atom.count []=0:=rfl
theorem eu(c:UInt8):(Atom.ws c).bytes.length=1:=rfl
theorem eg(c:List UInt8):(Atom.word c).bytes.length=c.length:=rfl
theorem gv(c:List UInt8):(kw c).bytes.length=c.length:=rfl
theorem sq(c:List UInt8):(Atom.num c).bytes.length=c.length:=rfl
theorem dO(c:List UInt8):(Atom.sg c).bytes.length=c.length:=rfl
def cE:Nat→Nat
 | 0=>1
 | d+1=>2*(cE d+2)+1
def bE:Nat→Nat
 | 0=>19
 | d+1=>2*(bE d+2)+4
theorem Co:∀d,1≤cE d
 | 0=>JQ _
 | d+1=>by unfold cE;omega
theorem vc:∀d,19≤bE d
 | 0=>JQ _
 | d+1=>by have:=vc d;unfold bE;omega
theorem m4(b:Bool)(aS:List Atom):Atom.count (par b aS)≤Atom.count aS+2∧fu (par b aS)≤fu aS+2:=by
 cases b
 ·exact⟨by simp[par],by simp[par]⟩
 ·simp only[par,if_true,ca,count_append,bc,bo,cp,dO,count_nil,J3,J9];omega
theorem Dl(op:Int):(gF op).length≤2:=by
 unfold gF
 repeat' split
 all_goals decide
theorem cY{N:Ks}(hN:dx N):∀(d:Nat) (x:VE),x.src N d→Atom.count (b1 x)≤cE d∧fu (b1 x)≤bE d
 | d,.num n,h=>by
  have q:0≤n∧n<4611686018427387904:=by cases d<;>exact h
  have:=jh 18 n.toNat ab;have ae:=Co d;have aC:=vc d;simp only[b1,mU,count_nil,bc,cp,sq]
  omega
 | d,.gy s,h=>by
  have q:s∈N:=by cases d<;>exact h
  have:=eh (hN s q);have ae:=Co d;have aC:=vc d;simp only[b1,cS,count_nil,bc,cp,eg]
  omega
 | d,.loc _,h=>by cases d<;>exact h.elim
 | d,.ia _,h=>by cases d<;>exact h.elim
 | 0,.un _ _,h=>h.elim
 | 0,.bin _ _ _,h=>h.elim
 | d+1,.un op x,h=>by
  have ao:=cY hN d x h.2;have hp:=m4 (dn op (aU x) false) (b1 x);have hs:(if op=3 then [45] else [33]:List UInt8).length=1:=by split<;>rfl
  simp only[b1,ca,bc,dO,hs,cE,bE]
  omega
 | d+1,.bin op x y,h=>by
  have i:=cY hN d x h.2.1;have c:=cY hN d y h.2.2;have hp:=m4 (dn op (aU x) false) (b1 x);have bm:=m4 (dn op (aU y) true) (b1 y);have hs:=Dl op;simp only[b1,count_append,cD,ca,bo,bc,eu,dO,cE,bE];omega
section
variable {G:Env} {V:Ks} (hV:dx V) (hG:nt G)
include hV hG
theorem l5(r:eF)(h:rH G V r):Atom.count (h4 r)≤22∧fu (h4 r)≤118:=by
 have hn:bp r.name.data.toList=true:=by
  rcases h with⟨m,hm,he,_⟩|⟨hp,_⟩
  ·rw[←he];exact hG.ae m hm
  ·exact hG.params _ hp
 have hl:=eh hn;unfold h4
 cases al:r.idx with
 | none=>
  exact zb
 | some e=>
  have hs:e.src V 2:=by
   exact Fv
  have ao:=cY hV 2 e hs;simp only[cE,bE] at ao;simp only[cS,ca,count_append,count_nil,bc,bo,cp,eg,dO,J3,J9];omega
theorem l4(p:ByteArray×Bool)(a:da)(h:HZ G V p a):Atom.count (fj a)≤23∧fu (fj a)≤124:=by
 cases a with
 | ex e=>
  have ao:=cY hV 2 e h.2;simp only[cE,bE] at ao;show Atom.count (b1 e)≤23∧fu (b1 e)≤124
  omega
 | mx r=>
  have ao:=l5 hV hG r h.2;simp only[fj,dK,cD,bc,gv,eu];have:fy.length=5:=rfl;omega
theorem nK:∀(ps:List (ByteArray×Bool)) (aS:List da),iz G V ps aS→Atom.count (dN (aS.map fj))≤24*ps.length∧fu (dN (aS.map fj))≤126*ps.length
 | [],[],_=>⟨JQ _,JQ _⟩
 | [p],[a],h=>by
  have:=l4 hV hG p a h.1;simp only[JW,Kd,dN,J3,J9]
  omega
 | p::q::ps,a::b::aS,h=>by
  have ae:=l4 hV hG p a h.1;have ao:=nK (q::ps) (b::aS) h.2;simp only[JW] at ao;simp only[JW,dN,count_append,ca,cD,bo,bc,dO,eu,J3,J9] at ao ⊢
  omega
 | [],_::_,h=>h.elim
 | _::_,[],h=>h.elim
 | [_],_::_::_,h=>h.2.elim
 | _::_::_,[_],h=>h.2.elim
theorem qB(ps:List (ByteArray×Bool))(aS:List da)(h:iz G V ps aS)(hp:ps.length≤2):Atom.count (iG aS)≤50∧fu (iG aS)≤254:=by
 have:=nK hV hG ps aS h;simp only[iG,ca,count_append,count_nil,bc,bo,cp,dO,J3,J9];omega
end
theorem gH(t:Nat):Atom.count (fa t)=0∧fu (fa t)=t:=by
 induction t with
 | zero=>exact⟨rfl,rfl⟩
 | succ t ao=>
  have e:fa (t+1)=.ws 9::fa t:=rfl;rw[e,cD,bc,eu];omega
theorem cN{G:Env}(hG:nt G):∀(b:al) (d t:Nat) (V T:Ks),dx V→t+d≤8→eN G d V T b→Atom.count (aT t b)≤53*b.num∧fu (aT t b)≤400*b.num
 | .nil,d,t,V,T,_,_,_=>⟨JQ _,JQ _⟩
 | .set v n e rest,d,t,V,T,hV,ht,h=>by
  have bH:=gH t
  cases v with
  | true=>
   have q:bp n.data.toList=true∧n∉T∧e.src V 2∧eN G d (V++[n]) (T++[n]) rest:=by cases d<;>exact h
   have ao:=cN hG rest d t _ _ (jP hV q.1) ht q.2.2.2;have aF:=cY hV 2 e q.2.2.1;have hn:=eh q.1;simp only[cE,bE] at aF;simp only[aT,if_true,count_append,dK,cD,cS,ca,count_nil,bo,bc,cp,gv,eu,eg,dO,al.num,J3,J9]
   omega
  | false=>
   have q:n∈V∧e.src V 2∧eN G d V T rest:=by cases d<;>exact h
   have ao:=cN hG rest d t _ _ hV ht q.2.2;have aF:=cY hV 2 e q.2.1;have hn:=eh (hV n q.1);simp only[cE,bE] at aF;simp only[aT,Kl,if_false,count_append,cD,cS,ca,count_nil,bo,bc,cp,eu,eg,dO,al.num,J3,J9]
   omega
 | .call g n aS rest,d,t,V,T,hV,ht,h=>by
  have bH:=gH t;have q:(∃ps,(n,ps)∈G.funcs∧iz G V ps aS)∧eN G d V T rest:=by cases d<;>exact h
  obtain⟨⟨ps,aD,has⟩,aU⟩:=q;have ao:=cN hG rest d t _ _ hV ht aU;have bk:=qB hV hG ps aS has (hG.funcs _ aD).2;have hn:=eh (hG.funcs _ aD).1;cases g<;>
  ·simp only[aT,Kl,if_false,if_true,count_append,dK,cD,cS,ca,count_nil,bo,bc,cp,gv,eu,eg,dO,al.num,J3,J9];simp only[] at hn
   omega
 | .lock u r rest,d,t,V,T,hV,ht,h=>by
  have bH:=gH t;have q:rH G V r∧eN G d V T rest:=by cases d<;>exact h
  have ao:=cN hG rest d t _ _ hV ht q.2;have b8:=l5 hV hG r q.1;cases u<;>
  ·simp only[aT,Kl,if_false,if_true,count_append,dK,cD,ca,bo,bc,gv,eu,dO,al.num,J3,J9]
   omega
 | .ite e th el rest,0,t,V,T,hV,ht,h=>h.elim
 | .gb e th rest,0,t,V,T,hV,ht,h=>h.elim
 | .ite e th el rest,d+1,t,V,T,hV,ht,h=>by
  have bH:=gH t;have j:=cN hG th d (t+1) _ _ hV ab h.2.1;have o:=cN hG el d (t+1) _ _ hV ab h.2.2.1;have ao:=cN hG rest (d+1) t _ _ hV ht h.2.2.2;have aF:=cY hV 2 e h.1;simp only[cE,bE] at aF;cases hn:el.isNil<;>
  ·simp only[aT,hn,Kl,if_false,if_true,J5,Kg,count_append,dK,cD,ca,count_nil,bo,bc,cp,gv,eu,dO,al.num,J3,J9]
   omega
 | .gb e th rest,d+1,t,V,T,hV,ht,h=>by
  have bH:=gH t;have j:=cN hG th d (t+1) _ _ hV ab h.2.1;have ao:=cN hG rest (d+1) t _ _ hV ht h.2.2;have aF:=cY hV 2 e h.1;simp only[cE,bE] at aF;simp only[aT,count_append,dK,cD,ca,bo,bc,gv,eu,dO,al.num,J3,J9]
  omega
 | .ret rest,d,t,V,T,hV,ht,h=>by
  have bH:=gH t;have q:eN G d V T rest:=by cases d<;>exact h
  have ao:=cN hG rest d t _ _ hV ht q;simp only[aT,count_append,dK,cD,ca,bo,bc,gv,eu,dO,al.num,J3,J9];omega
def hf(n:Int):List Atom:=if n<0 then [.sg [45],.num (jg n.natAbs)] else [.num (jg n.toNat)]
def ha(g:ByteArray×Int):List Atom:=kw [118,97,114]::.ws 32::.word g.1.data.toList::((if g.2=0 then [] else .ws 32::.sg [61]::.ws 32::hf g.2)++[.sg [59],.ws 10])
def hb(m:bA):List Atom:=kw (if m.re then [114,109,117,116,101,120] else fy)::.ws 32::.word m.name.data.toList::((if 0<m.size then .sg [91]::(hf m.size++[.sg [93]]) else [])++[.sg [59],.ws 10])
def gr(p:ByteArray×Bool):List Atom:=if p.2 then [kw fy,.ws 32,.word p.1.data.toList] else [.word p.1.data.toList]
def g9(f:az):List Atom:=kw [102,117,110,99]::.ws 32::.word f.name.data.toList::.sg [40]::(dN (f.params.map gr)++(.sg [41]::.ws 32::.sg [123]::.ws 10::(aT 1 f.body++[.sg [125],.ws 10])))
def fk(p:bB):List Atom:=p.globals.flatMap ha++(p.ae.flatMap hb++p.funcs.flatMap g9)
def ft(p:bB):List ByteArray:=p.globals.map (·.1)
def a5(p:bB):List ByteArray:=ft p++p.ae.map (·.name)++p.funcs.map (·.name)
def sigs(p:bB):List (ByteArray×List (ByteArray×Bool)):=p.funcs.map fun f=>(f.name,f.params)
def gj(p:bB)(f:az):Env:=⟨p.ae,f.params,sigs p⟩
def cn(ps:List (ByteArray×Bool)):List ByteArray:=(ps.filter fun q=>!q.2).map (·.1)
structure Jz(p:bB)(f:az):Prop where
 params:∀q∈f.params,bp q.1.data.toList=true
 jm:f.params.length≤2
 fresh:(a5 p++f.params.map (·.1)).Nodup
 body:eN (gj p f) 4 (ft p++cn f.params) (a5 p++f.params.map (·.1)) f.body
structure oE(p:bB):Prop where
 names:∀s∈a5 p,bp s.data.toList=true
 nodup:(a5 p).Nodup
 pK:p.globals.length≤16
 x9:p.ae.length≤12
 Ep:p.funcs.length≤16
 inits:∀g∈p.globals,-9223372036854775807≤g.2∧g.2≤9223372036854775807
 gm:∀m∈p.ae,0≤m.size∧m.size≤64∧(m.re=true→m.size=0)
 funcs:∀f∈p.funcs,Jz p f
 main:∃(i:Nat) (f:az),p.funcs[i]?=some f∧f.name=⟨#[109,97,105,110]⟩∧f.params=[]
 jm:(p.funcs.map fun f=>f.body.num).sum≤64
theorem oE.env(h:oE p)(aD:f∈p.funcs):nt (gj p f) where
 ae:=fun m hm=>h.names _ (by simp only[a5,JZ,Ke];exact .inl (.inr ⟨m,hm,rfl⟩))
 params:=(h.funcs f aD).params
 funcs:=fun g aJ=>by
  obtain⟨k,aj,rfl⟩:=Ke.1 aJ;exact⟨h.names _ (by simp only[a5,JZ,Ke];exact .inr ⟨k,aj,rfl⟩),(h.funcs k aj).jm⟩
theorem oE.vars(h:oE p)(aD:f∈p.funcs):dx (ft p++cn f.params):=by
 intro s hs;rcases JZ.1 hs with hs|hs
 ·exact h.names _ (by simp only[a5,JZ];exact .inl (.inl hs))
 ·obtain⟨q,bm,rfl⟩:=Ke.1 hs;exact(h.funcs f aD).params q (List.mem_filter.1 bm).1
theorem jL{α:Type}(f:α→List Atom):∀(l:List α),(∀x∈l,hi (f x))→hi (l.flatMap f)
 | [],_=>⟨trivial,fun a h=>by simp at h⟩
 | x::l,h=>by
  have ao:=jL f l fun y a4=>h y (by simp[a4]);have hx:=h x (by simp);refine⟨hx.app ao.1,fun a aV=>?_⟩;rw[Ka,List.getLast?_append] at aV
  cases hl:(l.flatMap f).getLast? with
  | none=>rw[hl] at aV;exact hx.2 a (by simpa using aV)
  | some b=>
   rw[hl] at aV;simp at aV;subst aV;exact ao.2 b hl
theorem jM{α:Type}(f:α→List Atom)(g:α→Nat)(c k:Nat):∀(l:List α),(∀x∈l,Atom.count (f x)≤c+53*g x∧fu (f x)≤k+400*g x)→
  Atom.count (l.flatMap f)≤c*l.length+53*(l.map g).sum∧fu (l.flatMap f)≤k*l.length+400*(l.map g).sum
 | [],_=>⟨by simp[count_nil],by simp[cp]⟩
 | x::l,h=>by
  have ao:=jM f g c k l fun y a4=>h y (by simp[a4]);have hx:=h x (by simp);simp only[Ka,count_append,bo,J3,JW,List.sum_cons,Nat.mul_add,Nat.mul_one];omega
theorem GY{α:Type}(l:List α):(l.map fun _=>0).sum=0:=by induction l<;>simp_all
theorem oY(n:Int)(h:-9223372036854775807≤n∧n≤9223372036854775807):k5 (hf n)∧Atom.count (hf n)≤2∧fu (hf n)≤20:=by
 unfold hf;split
 ·have aJ:=pN (n:=n.natAbs) ab;have hl:=jh 18 n.natAbs ab;refine⟨DB (.inl rfl) ⟨aJ,⟨_,rfl,.inl ⟨rfl,aJ⟩⟩,⟨_,rfl,.inl rfl⟩⟩,?_,?_⟩
  ·simp only[ca,mU,count_nil];omega
  ·simp only[bc,cp,dO,sq,J3,J9];omega
 ·have aJ:=pN (n:=n.toNat) ab;have hl:=jh 18 n.toNat ab;refine⟨⟨aJ,⟨_,rfl,.inl ⟨rfl,aJ⟩⟩,⟨_,rfl,.inl rfl⟩⟩,?_,?_⟩
  ·simp only[mU,count_nil];omega
  ·simp only[bc,cp,sq];omega
theorem EP:Atom.chain [.sg [59],.ws 10]:=bP (bZ (.inl (by decide))) rfl rfl
theorem qQ(g:ByteArray×Int)(hn:bp g.1.data.toList=true)(h:-9223372036854775807≤g.2∧g.2≤9223372036854775807):hi (ha g)∧Atom.count (ha g)≤6∧fu (ha g)≤50:=by
 have hl:=eh hn;obtain⟨bi,hc,O⟩:=oY g.2 h;have aj:(kw [118,97,114]).fF:=fh (by decide);refine⟨⟨?_,fun a aV=>?_⟩,?_⟩
 ·unfold ha;refine bP aj rfl (cQ rfl ?_);split
  ·exact h5 (ds hn) rfl EP
  ·exact bP (ds hn) rfl (cQ rfl (bP (bZ (.inl (by decide))) rfl (cQ rfl (eP bi (.inr (.inr (.inl rfl))) EP))))
 ·unfold ha at aV;exact yX
 ·unfold ha;have aT:([118,97,114]:List UInt8).length=3:=rfl;split
  ·simp only[Kg,dK,cD,cS,ca,count_nil,bc,cp,gv,eu,eg,dO,J3,J9];omega
  ·simp only[J5,dK,cD,cS,ca,count_append,count_nil,bc,bo,cp,gv,eu,eg,dO,J3,J9];omega
theorem qR(m:bA)(hn:bp m.name.data.toList=true)(h:0≤m.size∧m.size≤64):hi (hb m)∧Atom.count (hb m)≤7∧fu (hb m)≤50:=by
 have hl:=eh hn;obtain⟨bi,hc,O⟩:=oY m.size ab;have aj:(kw (if m.re then [114,109,117,116,101,120] else fy)).fF:=fh (by split<;>decide);have bN:(if m.re then [114,109,117,116,101,120] else fy:List UInt8).length≤6:=by split<;>decide
 refine⟨⟨?_,fun a aV=>?_⟩,?_⟩
 ·unfold hb;refine bP aj rfl (cQ rfl ?_);split
  ·simp only[J5,J4];refine h5 (ds hn) rfl (oh (.inr rfl) bi (eP bi (.inr (.inl rfl)) (cH (bZ (.inl (by decide))) EP fun b O=>?_)));simp at O;subst O;exact oj _ (.inr (.inr rfl)) _ (.inr (.inr (.inl rfl)))
  ·exact h5 (ds hn) rfl EP
 ·unfold hb at aV;exact yX
 ·unfold hb;generalize (if m.re then [114,109,117,116,101,120] else fy:List UInt8)=s at *;split
  ·simp only[J5,dK,cD,cS,ca,count_append,count_nil,bc,bo,cp,gv,eu,eg,dO,J3,J9];omega
  ·simp only[Kg,dK,cD,cS,ca,count_nil,bc,cp,gv,eu,eg,dO,J3,J9];omega
theorem mS(p:ByteArray×Bool)(hn:bp p.1.data.toList=true):k5 (gr p)∧Atom.count (gr p)≤2∧fu (gr p)≤22:=by
 have hl:=eh hn;have hw:=ds hn;have aj:(kw fy).fF:=fh (by decide);have cl:fy.length=5:=rfl;unfold gr;split
 ·refine⟨⟨bP aj rfl (cQ rfl hw),⟨_,rfl,.inl ⟨rfl,aj⟩⟩,⟨_,rfl,.inl rfl⟩⟩,?_⟩;simp only[dK,cD,cS,count_nil,bc,cp,gv,eu,eg];omega
 ·refine⟨⟨hw,⟨_,rfl,.inl ⟨rfl,hw⟩⟩,⟨_,rfl,.inl rfl⟩⟩,?_⟩;exact zb
theorem nL:∀(l:List (ByteArray×Bool)),(∀q∈l,bp q.1.data.toList=true)→Atom.count (dN (l.map gr))≤3*l.length∧fu (dN (l.map gr))≤24*l.length
 | [],_=>⟨JQ _,JQ _⟩
 | [p],h=>by
  have:=(mS p (h p (by simp))).2;simp only[JW,Kd,dN,J3,J9]
  omega
 | p::q::l,h=>by
  have ae:=(mS p (h p (by simp))).2;have ao:=nL (q::l) fun x hx=>h x (by simp[hx]);simp only[JW] at ao;simp only[JW,dN,count_append,ca,cD,bo,bc,dO,eu,J3,J9] at ao ⊢;omega
theorem qP(hp:oE p)(aD:f∈p.funcs):hi (g9 f)∧Atom.count (g9 f)≤13+53*f.body.num∧fu (g9 f)≤80+400*f.body.num:=by
 have hF:=hp.funcs f aD;have hn:bp f.name.data.toList=true:=hp.names _ (by simp only[a5,JZ,Ke];exact .inr ⟨f,aD,rfl⟩);have hl:=eh hn;have hc:=cM (hp.env aD) f.body 4 1 _ _ (hp.vars aD) hF.body;have aj:=cN (hp.env aD) f.body 4 1 _ _ (hp.vars aD) ab hF.body;have bm:=nL f.params hF.params;have J:=hF.jm;have k:(Atom.sg [123]).fF:=bZ (.inl (by decide));have i:Atom.chain [.sg [125],.ws 10]:=bP (bZ (.inl (by decide))) rfl rfl;have e1:hi (aT 1 f.body):=⟨hc,dB f.body 1⟩
 have tail:Atom.chain (.sg [41]::.ws 32::.sg [123]::.ws 10::(aT 1 f.body++[.sg [125],.ws 10])):=
  bP (bZ (.inl (by decide))) rfl (cQ rfl (bP k rfl (cQ rfl (e1.app i))))
 refine⟨⟨?_,fun a aV=>?_⟩,?_⟩
 ·unfold g9;refine bP (fh (by decide)) rfl (cQ rfl (h5 (ds hn) rfl ?_))
  cases ch:f.params with
  | nil=>
   refine cH (bZ (.inl (by decide))) tail fun b O=>?_
   exact Fz
  | cons q l=>
   have hs:k5 (dN ((q::l).map gr)):=mY _ (fun a aV=>by
    obtain⟨x,hx,rfl⟩:=Ke.1 aV;exact(mS x (hF.params x (by rw[ch];exact hx))).1) (by simp)
   exact oh (.inl rfl) hs (eP hs (.inl rfl) tail)
 ·unfold g9 at aV;exact(k7.cons (.cons (.cons (.cons (.app (.cons (.cons (.cons (.cons (.app (.cons (.nl (l:=[]) fun a h=>by simp at h)))))))))))).2 a aV
 ·have a9:([102,117,110,99]:List UInt8).length=4:=rfl;simp only[g9,dK,cD,cS,ca,count_append,count_nil,bc,bo,cp,gv,eu,eg,dO,J3,J9];omega
theorem tM(hp:oE p):(dX (aR (fk p))).2.2=0:=by
 have aJ:∀g∈p.globals,bp g.1.data.toList=true:=fun g h=>hp.names _ (by simp only[a5,ft,JZ,Ke];exact .inl (.inl ⟨g,h,rfl⟩));have hm:∀m∈p.ae,bp m.name.data.toList=true:=fun m h=>hp.names _ (by simp only[a5,JZ,Ke];exact .inl (.inr ⟨m,h,rfl⟩));have c1:=jL ha p.globals fun g h=>(qQ g (aJ g h) (hp.inits g h)).1;have c2:=jL hb p.ae fun m h=>(qR m (hm m h) ⟨(hp.gm m h).1,(hp.gm m h).2.1⟩).1;have c3:=jL g9 p.funcs fun f h=>(qP hp h).1;have b5:=jM ha (fun _=>0) 6 50 p.globals fun g h=>by have:=(qQ g (aJ g h) (hp.inits g h)).2;omega
 have bE:=jM hb (fun _=>0) 7 50 p.ae fun m h=>by have:=(qR m (hm m h) ⟨(hp.gm m h).1,(hp.gm m h).2.1⟩).2;omega
 have cx:=jM g9 (fun f=>f.body.num) 13 80 p.funcs fun f h=>(qP hp h).2;rw[GY] at b5 bE;have n1:=hp.pK;have n2:=hp.x9;have n3:=hp.Ep;have n4:=hp.jm;have hlen:(aR (fk p)).length≤262144:=by
  have:fu (fk p)=fu (p.globals.flatMap ha)+(fu (p.ae.flatMap hb)+fu (p.funcs.flatMap g9)):=by unfold fk;rw[bo,bo]
  unfold fu at this b5 bE cx;omega
 unfold dX;rw[if_neg ab];refine ie (fk p) _ _ [] ?_ (Nat.lt_succ_self _) ?_
 ·exact c1.app (c2.app c3.1)
 ·unfold fk;rw[count_append,count_append];simp only[J9];omega
end Go.Proofs.YtbkhhfajcgkpgaaGreat
