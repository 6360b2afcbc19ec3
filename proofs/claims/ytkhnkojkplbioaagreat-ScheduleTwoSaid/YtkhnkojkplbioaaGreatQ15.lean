/- Part 15 of the proof. No condition of its own. -/
import Derived.Test.YtkhnkojkplbioaaGreatQ09
namespace Go.Proofs.YtkhnkojkplbioaaGreat
open Go.RowKit Go.Proofs.Tryz
set_option maxRecDepth 1000000
set_option maxHeartbeats 25600000
set_option linter.unusedVariables false
variable{s:ByteArray}{d:D}{cs xs:List Value}{c:List az}{l:List dO}{k n:Nat}{P:Nat->Prop}{A:L3}{p:Prop}{t:TypeId}{v0 v1 v2:Value}{V X aS:World}{e:dO}
theorem gU{w:World}{l:List D}:D.aQ w P (d::l) cs↔∃x y,cs=x++y/\d.rep w P x/\D.aQ w P l y:=by simp only[D.aQ]
theorem jD{w:World}{r:eS}:(kG r).rep w P cs↔∃A n c,cs=[.string r.name,.slice A n c]/\n<=c/\Sl w P A n (r.idx.toList.map bp):=by
 unfold kG;rw[bM,ct];constructor
 .rintro⟨y,rfl,h⟩;rw[aN] at h;obtain⟨A,n,c,bA,rfl,hc,hs,aY⟩:=h;exact sI
 .rintro⟨A,n,c,rfl,hc,hs⟩;exact vI
def b2(e:dO):D:=.st [.s e.name,.i e.kind,.i e.n]
theorem yQ(e:dO):(b2 e).sz=3:=rfl
theorem iC{w:World}:(b2 e).rep w P cs↔cs=[.string e.name,.int .i64 e.kind,.int .i64 e.n]:=by
 unfold b2;rw[bM,ct];constructor
 .rintro⟨y,rfl,h⟩;rw[bq] at h;exact z6
 .rintro rfl;exact⟨_,rfl,bq.2 ⟨_,rfl,bq.2 ⟨_,rfl,aP.2 rfl⟩⟩⟩
theorem mJ(x:az):(ej x).sz=12:=by
 have ac:(oO x.expr).sz=4:=by
  cases x.expr with
  | none=>rfl
  | some x=>exact db x
 unfold ej dk;simp only[D.sz,D.zm,ac]
def Ms(g:Nat)(cv sv:Value):Nat->Prop:=λb=>b=g\/cv.ownBlock=some b\/sv.ownBlock=some b
structure Mv(g:Nat)(cv sv:Value)(w:World)(a f:Value)(ab:World):Prop where
 fr:Fr (Ms g cv sv) w ab
 own:∀b,b<w.heap.size->Ms g a f b->Ms g cv sv b
section
variable {g:Nat} {cv sv a f i m:Value} {w ab aU:World}
theorem Mv.refl(g:Nat)(cv sv:Value)(w:World):Mv g cv sv w cv sv w:=⟨LW,λ_ _ h=>h⟩
theorem Mv.trans(h:Mv g cv sv w a f ab)(k:Mv g a f ab i m aU):Mv g cv sv w i m aU:=by
 refine⟨⟨k.fr.os.trans h.fr.os,k.fr.tape.trans h.fr.tape,k.fr.output.trans h.fr.output,LD h.fr.size k.fr.size,λb O hn=>?_⟩,λb O hm=>?_⟩
 .exact(k.fr.block b (Ll O h.fr.size) λhm=>hn (h.own b O hm)).trans (h.fr.block b O hn)
 .exact h.own b O (k.own b (Ll O h.fr.size) hm)
theorem Mv.hg(h:Ext w ab):Mv g cv sv w cv sv ab:=⟨h.mono λ_ h=>h.elim,λ_ _ h=>h⟩
theorem Mv.Jm(h:Fr (Ms g cv sv) w ab):Mv g cv sv w cv sv ab:=⟨h,λ_ _ h=>h⟩
theorem Mv.Jn(h:Mv g cv sv w a f ab):∀b,off (Ms g cv sv) w b->off (Ms g a f) ab b:=
 λb O=>⟨Ll O.1 h.fr.size,λhm=>O.2 (h.own b O.1 hm)⟩
theorem D.cS(h:d.rep w (off (Ms g cv sv) w) cs)(O:Mv g cv sv w a f ab):d.rep ab (off (Ms g a f) ab) cs:=
 D.aL O.Jn _ _ (D.aS (λb al=>O.fr.block b al.1 al.2) _ _ h)
theorem Sl.cS{l:List D}(h:Sl w (off (Ms g cv sv) w) A n l)(O:Mv g cv sv w a f ab):Sl ab (off (Ms g a f) ab) A n l:=
 (h.al (λb al=>O.fr.block b al.1 al.2)).mono O.Jn
end
theorem sf{w:World}{P:Nat->Prop}(t:Int):∀(code:List az) (xs:List Value) (b:Nat),D.aQ w P (code.map ej) xs->b<code.length->D.aQ w P ((ga code b t).map ej) (xs.set (b*12+1) (.int .i64 t))
 | [],xs,b,h,O=>by simp at O
 | x::code,xs,0,h,O=>by
  rw[Lq] at h;obtain⟨j,d,rfl,hx,bb⟩:=gU.1 h;have hl:=(D.lr _ _ hx).trans (mJ x);have e:ga (x::code) 0 t={x with target:=t}::code:=rfl;rw[e,Lq,List.set_append_left _ _ ad];refine gU.2 ⟨_,_,rfl,?_,bb⟩;unfold ej at hx ⊢;rw[bM,bq] at hx ⊢;obtain⟨y,rfl,hx⟩:=hx;rw[bq] at hx;obtain⟨ch,rfl,hx⟩:=hx
  exact⟨_,rfl,bq.2 ⟨_,rfl,hx⟩⟩
 | x::code,xs,b+1,h,O=>by
  rw[Lq] at h;obtain⟨j,d,rfl,hx,bb⟩:=gU.1 h;have hl:=(D.lr _ _ hx).trans (mJ x);have ao:=sf t code d b bb (by simpa using O);have e:ga (x::code) (b+1) t=x::ga code b t:=rfl;rw[e,Lq,List.set_append_right _ _ ad,hl,show (b+1)*12+1 - 12=b*12+1 by omega];exact gU.2 ⟨_,_,rfl,hx,ao⟩
theorem cy(code:List az)(b:Nat)(t:Int):(ga code b t).length=code.length:=by unfold ga;rw[List.length_modify]
def kQ(x:az):Prop:=(x.op=2\/x.op=3)\/(x.ints=[]/\x.places=[])
def Fh(u:ay):Prop:=∀p∈u.procs,∀x∈p.code,kQ x
theorem eK{y:az}(h:∀x∈c,kQ x)(bb:kQ y):∀x∈c++[y],kQ x:=λx hx=>by
 rcases Lt.1 hx with hx|hx
 .exact h x hx
 .rw[LO.1 hx];exact bb
theorem j9{b:Nat}{t:Int}(h:∀x∈c,kQ x):∀x∈ga c b t,kQ x:=λx hx=>by
 rcases qt hx with hx|⟨y,bb,rfl⟩
 .exact h x hx
 .exact h y (Ln bb)
theorem dy:∀(b:an) (l:List dO) (n:Int) (c:List az),(∀x∈c,kQ x)->∀x∈(dL b l n c).1,kQ x
 | .nil,_,_,c,h=>h
 | .set true s e rest,l,n,c,h=>dy rest _ _ _ (eK h (.inr ⟨rfl,rfl⟩))
 | .set false s e rest,l,n,c,h=>dy rest _ _ _ (eK h (.inr ⟨rfl,rfl⟩))
 | .call g s aV rest,l,n,c,h=>dy rest _ _ _ (eK h (.inl (by cases g<;>simp[lK])))
 | .lock u r rest,l,n,c,h=>dy rest _ _ _ (eK h (.inr ⟨rfl,rfl⟩))
 | .ite e th el rest,l,n,c,h=>by
  have ac:=dy th l n _ (eK (y:=ks (bO l e) 0) h (.inr ⟨rfl,rfl⟩));simp only[dL];refine dy rest _ _ _ ?_;split
  .exact j9 ac
  .exact j9 (dy el l _ _ (j9 (eK ac (.inr ⟨rfl,rfl⟩))))
 | .gz e th rest,l,n,c,h=>by
  have ac:=dy th l n _ (eK (y:=ks (bO l e) 0) h (.inr ⟨rfl,rfl⟩))
  exact dy rest _ _ _ (j9 (eK ac (.inr ⟨rfl,rfl⟩)))
 | .ret rest,l,n,c,h=>dy rest _ _ _ (eK h (.inr ⟨rfl,rfl⟩))
theorem ye(p:bP):Fh (gq p):=λq bA=>by
 simp only[gq,LL] at bA;obtain⟨f,_,rfl⟩:=bA;exact eK (dy _ _ _ _ (by simp)) (.inr ⟨rfl,rfl⟩)
structure tV(u:ay):Prop where
 ok:c5 u
 sh:Fh u
theorem tV.I8{u:ay}{f:ak}(h:tV u)(hF:cc u f):∃cn x,u.procs[f.proc.toNat]?=some cn/\cn.code[f.pc.toNat]?=some x/\f.proc.toNat<u.procs.length/\f.pc.toNat<cn.code.length/\0<=f.proc/\0<=f.pc/\(∃len:Nat,cn.code.length=len+1/\h7 (bC u) cn.locals cn.au len x)/\x.ints.length<=200/\x.places.length<=200/\(x.op≠8->f.pc+1<cn.code.length)/\qK (bC u) cn:=by
 obtain⟨cn,x,hp,a1,hx,len,hl,an,hn⟩:=ql h.ok hF;have ac:=(List.getElem?_eq_some_iff.1 hp).1;have au:=(List.getElem?_eq_some_iff.1 hx).1;have hlen:x.ints.length<=200/\x.places.length<=200:=by
  rcases h.sh cn (Ln hp) x (Ln hx) with aY|⟨aY,bR⟩
  .rcases an with⟨bR,_⟩|⟨_,_,sg,_,hs,cI,a2,_⟩|⟨bR,_⟩|⟨bR,_⟩|⟨bR,_⟩|⟨bR,_⟩
   .omega
   .simp only[bC,List.getElem?_map] at hs
    cases bA:u.procs[x.target.toNat]? with
    | none=>rw[bA] at hs;cases hs
    | some r=>
     rw[bA] at hs;simp only[Option.map_some,LP] at hs;have ba:=h.ok.procs r (Ln bA);have:=ba.ints;have:=ba.au;subst hs;simp only at cI a2;omega
   .omega
   .omega
   .omega
   .omega
  .rw[aY,bR];simp
 exact⟨cn,x,hp,hx,ac,au,hF.proc,hF.pc,⟨len,hl,an⟩,hlen.1,hlen.2,hn,a1⟩
theorem yy{P:Program}(S:World){o:Oper}{a:Act}{K:Act->World->Prop}{Q:Exit->Act->World->Prop}{e:TypeId}{z:Value}{size bytes:Nat}(aX:cj P t e z size bytes)(s x:Operand)
  (bn:o.op=.call {callee:=.builtin .append,args:=#[s,x],argTypes:=#[t,t]})
  (base:Nat) (v:Value) (n:Nat) (xs:List Value) (cs:Array Value) (hs:a.eval s=v) (aB:S.ownsRow base e size v n xs)
  (hx:a.eval x=.slice (some ⟨S.heap.size,0,none⟩) 1 1) (T:cs.size=size) (ac:∀u∈cs.toList,u.oneCell'=true)
  (r:(n+1)*bytes<=140737488355328) (y:n+1<=140737488355328) (C:base<=S.heap.size)
  (h:∀G ab,ab.ownsRow base e size G (n+1) (xs++cs.toList)->S.grownBy ab v.ownBlock->(G.ownBlock=v.ownBlock\/G.ownBlock=some (S.heap.size+1))->K (a.put o.dst G) ab):o.wp P a (S.alloc (.cells cs e)) K Q:=by
 refine kf _ aX s x bn base v n xs hs (aB.alloc _) _ 1 1 cs.toList hx (Src.block (heap_alloc_new S _) 1 ad ac) r y (by simp;omega) (λh=>nomatch h) λG ab au aY bR=>?_;exact h G ab au ⟨aY.os,aY.tape,aY.output,by have:=aY.size;simp at this;omega,λk ap bf=>(aY.block k (by simp;omega) bf).trans (Below.heap_alloc S _ k ap)⟩ (by simpa using bR)
theorem pP:cj prog 51 53 (.agg #[.int .i64 0,.int .i64 0,.string ⟨#[]⟩,.slice none 0 0]) 4 56:=cj.mk' Tryz.underlying51 (by kernel_rfl) rfl ad
abbrev fresh(w ab:World):Nat->Prop:=λb=>w.heap.size<=b/\b<ab.heap.size
theorem El{w aU:World}(h:d.rep aS (fresh w aS) cs)(O:Ext aS aU):d.rep aU (fresh w aU) cs:=
 D.aL (λ_ al=>⟨al.1,Ll al.2 O.size⟩) _ _ (D.aS (λb al=>O.block b al.2 (λh=>h)) _ _ h)
theorem wz{S w ab:World}(h:d.rep ab (fresh w ab) cs)(O:S.heap.size<=w.heap.size):d.rep ab (fresh S ab) cs:=
 D.aL (λ_ al=>⟨LD O al.1,al.2⟩) _ _ h
def rv(e:dO):Value:=.agg #[.string e.name,.int .i64 e.kind,.int .i64 e.n]
def iZ:Option dO->Value
 | some e=>.tuple #[rv e,.bool true]
 | none=>.tuple #[.agg #[.string ⟨#[]⟩,.int .i64 0,.int .i64 0],.bool false]
theorem jY(h:∀(j:Nat) (x:dO),l[j]?=some x->x.name≠s):dD l s=none:=by
 unfold dD;rw[List.find?_eq_none];exact Ai
theorem uz(ap:l[k]?=some e)(he:e.name=s)(h:∀(j:Nat) (x:dO),j<k->l[j]?=some x->x.name≠s):dD l s=some e:=by
 induction l generalizing k with
 | nil=>simp at ap
 | cons a l ao=>
  cases k with
  | zero=>
   simp only[List.getElem?_cons_zero,LP] at ap;subst ap;unfold dD
   rw[List.find?_cons_of_pos (by simpa using he)]
  | succ k=>
   simp only[List.getElem?_cons_succ] at ap;have bz:=h 0 a ad rfl;unfold dD;rw[List.find?_cons_of_neg (by simpa using bz)];exact ao ap λj x bi hx=>h (j+1) x ad (by simpa using hx)
theorem dZ(A:L3)(n c:Nat)(l:List dO)(s:ByteArray)(w:World)(h:Sl w (av w) A n (l.map b2))(hn:n<=1000000) :
  Calls prog 92 #[.slice A n c,.string s] w λe ab=>e=.returned (iZ (dD l s))/\Ext w ab:=by
 have H:=ae h;have b8:=ae (show l.length=n by rw[<-h.1,Lo]);clear h;go_enter func92,ntmps92;go_wp2;generalize be:World.alloc _ _=W;have aw:=aW be;have aR:=aI be;clear be;have bo:=ae aw;have bq:=ae (H.on (Fr.ext aw));obtain⟨a0,aj,af⟩:=aR.two;have bO:=ae aR;clear aw aR
 go_loop [6] (λbg=>∃k:Nat,k<=n/\bg=.int .i64 k/\∀(j:Nat) (x:dO),j<k->l[j]?=some x->x.name≠s) (λbg=>n - (intOf bg).toNat)
 case atStart=>exact⟨0,ad,rfl,λj x h=>ad⟩
 case round=>
  obtain⟨k,ap,rfl,bf⟩:=hrel;have bY:=ae bf;clear bf;by_cases al:k<n
  .obtain⟨b,o,x,cs,rfl,O,hx,ba,a8,Z⟩:=bq.g6 yQ al;obtain rfl:=iC.1 ba;have c0:=Z 0 _ rfl;have c1:=Z 1 _ rfl;have c2:=Z 2 _ rfl;simp only[Lu] at c0;have aT:b<W.heap.size:=O;have aQ:=ae hx;clear hx ba a8 Z O;by_cases hs:x.name=s
   .have bX:=ae (uz aQ.o hs bY.o);subst hs;go_wp2;generalize hX:World.setCell _ _ _=X;have bC:aq X w.heap.size 166 #[.string x.name,.int .i64 x.kind,.int .i64 x.n]:=hX▸((bO.aM 0 _).aM 1 _).aM 2 _;have aZ:Ext w X:=hX▸((bo.setCell (.inr (Lk _)) _).setCell (.inr (Lk _)) _).setCell (.inr (Lk _)) _;obtain⟨e0,a6,aP⟩:=bC.two;clear a0 aj af;refine LU (v:=.tuple #[.agg #[.string x.name,.int .i64 x.kind,.int .i64 x.n],.bool true]) (by simp[results,Tryz.results92,go_sem,e0]) rfl ?_;exact⟨by rw[bX.o];rfl,aZ⟩
   .have q:=tJ hs;have am:=ae hs;clear hs;go_wp2
    go_round
    case rel=>exact⟨k+1,ad,by go_num,λj y bi bb=>by
     by_cases z:j=k
     .subst z;rw[aQ.o] at bb;injection bb with bb;subst bb;exact am.o
     .exact bY.o j y ad bb⟩
    case measure=>exact aH
  .have bX:=ae (jY (l:=l) (s:=s) λj x bi=>bY.o j x (by have:=(List.getElem?_eq_some_iff.1 bi).1;have:=b8.o;omega) bi);go_wp2;generalize hX:World.setCell _ _ _=X;have bC:aq X w.heap.size 166 #[.string ⟨#[]⟩,.int .i64 0,.int .i64 0]:=hX▸((bO.aM 0 _).aM 1 _).aM 2 _;have aZ:Ext w X:=hX▸((bo.setCell (.inr (Lk _)) _).setCell (.inr (Lk _)) _).setCell (.inr (Lk _)) _;obtain⟨e0,a6,aP⟩:=bC.two;clear a0 aj af;refine LU (v:=.tuple #[.agg #[.string ⟨#[]⟩,.int .i64 0,.int .i64 0],.bool false]) (by simp[results,Tryz.results92,go_sem,e0]) rfl ?_;exact⟨by rw[bX.o];rfl,aZ⟩
structure tY(w:World)(g:Nat)(l:List dO):Prop where
 lt:g<w.heap.size
 ex:∃A n c,n<=1000000/\w.cell? ⟨g,3,none⟩=some (.slice A n c)/\Sl w (av w) A n (l.map b2)
theorem tY.on{w ab:World}{g:Nat}(h:tY w g l)(O:Ext w ab):tY ab g l:=by
 exact DL
theorem nj(g:Nat)(l:List dO)(s:ByteArray)(v:dO)(J:dD l s=some v)(ap:v.kind=1\/v.kind=4)(st:Int)(w:World)(h:tY w g l) :
  Calls prog 158 #[.pointer (some ⟨g,0,none⟩),.string s,.int .i64 st] w λe ab=>e=.returned (rv v)/\Ext w ab:=by
 have H:=ae h;clear h;go_enter func158,ntmps158;go_upto_region 1 with(fail);generalize be:World.alloc _ _=W;have aw:=aW be;have aR:=aI be;obtain⟨a9,A,n,c,hn,c3,hs⟩:=H.on aw;obtain⟨bO,bo,bq⟩:=ek aR aw hs;clear be aw aR hs;go_wp2_with(fail);refine(dZ A n c l s W bq.o hn).mono ?_;rintro e aS ⟨rfl,ar⟩;have bx:=ae (bo.trans ar);have G:=ae (bO.aj ar);rw[J];simp only[iZ,rv];clear ar c3 a9;go_upto_region 2 with(fail);generalize hV:World.alloc _ _=V;have L:=aW hV;have aX:=ae (bx.trans L);have bB:=ae (G.aj L);have hC:=aI hV;obtain⟨a0,aj,af⟩:=hC.two;obtain⟨a7,am,aF⟩:=bB.two;clear hV L hC;have fin:∀X,X=((V.setCell ⟨w.heap.size,0,none⟩ (.string v.name)).setCell ⟨w.heap.size,1,none⟩ (.int .i64 v.kind)).setCell ⟨w.heap.size,2,none⟩ (.int .i64 v.n)->aq X w.heap.size 166 #[.string v.name,.int .i64 v.kind,.int .i64 v.n]/\Ext w X:=by
  rintro X rfl;exact⟨((bB.aM 0 _).aM 1 _).aM 2 _,((aX.setCell (.inr (Lk _)) _).setCell (.inr (Lk _)) _).setCell (.inr (Lk _)) _⟩
 have d:=ae fin;clear fin;obtain⟨bi,cS,cJ⟩:=v;simp only at *;rcases ap with rfl|rfl
 all_goals
  go_wp2;generalize hX:World.setCell _ _ _=X;obtain⟨bD,a4⟩:=d.o X hX.symm;obtain⟨e0,a6,aP⟩:=bD.two;clear a0 aj af a7 am aF;refine LU (v:=.agg #[.string bi,.int .i64 _,.int .i64 cJ]) (by simp[results,Tryz.results158,go_sem,e0];rfl) rfl ?_;exact⟨rfl,a4⟩
def fV(l:List dO):VE->Prop
 | .num _=>True
 | .g7 s=>∃v,dD l s=some v/\(v.kind=1\/v.kind=4)
 | .loc _=>False
 | .iF _=>False
 | .un op x=>(op=3\/op=4)/\fV l x
 | .bin op x y=>(5<=op/\op<=17)/\fV l x/\fV l y
theorem x1(x:VE):x.args.length<=2:=by cases x<;>simp[VE.args]
def pD(l:List dO)(x:VE):Prop:=∀(g:Nat) (st op n:Int) (s:ByteArray) (A:L3) (m c:Nat) (w:World),tY w g l->(bp x).rep w (av w) [.int .i64 op,.int .i64 n,.string s,.slice A m c]->
 Calls prog 157 #[.pointer (some ⟨g,0,none⟩),.agg #[.int .i64 op,.int .i64 n,.string s,.slice A m c],.int .i64 st] w λr ab=>
  ∃(o aP:Int) (Q:ByteArray) (I:L3) (bP aK:Nat),r=.returned (.agg #[.int .i64 o,.int .i64 aP,.string Q,.slice I bP aK])/\(bp (bO l x)).rep ab (fresh w ab) [.int .i64 o,.int .i64 aP,.string Q,.slice I bP aK]/\Ext w ab
abbrev KL(B:Nat)(wr:World)(v:Value):Nat->Prop:=λb=>B<=b/\b<wr.heap.size/\v.ownBlock≠some b
structure zw(w wr:World)(l:List dO)(x:VE)(A:L3)(m c k:Nat)(I:L3)(aK:Nat)(xs:List Value):Prop where
 ext:Ext w wr
 b4:aq wr w.heap.size 53 #[.int .i64 x.bg,.int .i64 x.numOf,.string x.bA,.slice A m c]
 b6:aq wr (w.heap.size+1) 53 #[.int .i64 0,.int .i64 0,.string ⟨#[]⟩,.slice none 0 0]
 b8:aq wr (w.heap.size+2) 53 #[.int .i64 x.bg,.int .i64 x.numOf,.string ⟨#[]⟩,.slice I k aK]
 own:wr.ownsRow (w.heap.size+3) 53 4 (.slice I k aK) k xs
 aQ:D.aQ wr (KL (w.heap.size+3) wr (.slice I k aK)) ((x.args.take k).map λy=>bp (bO l y)) xs
theorem zw.next{w wr aU:World}{x y:VE}{m c:Nat}{I cE:L3}{aK c3:Nat}{b3:List Value}(h:zw w wr l x A m c k I aK xs)(bb:x.args[k]?=some y)
  (he:Ext wr aS) (ba:(bp (bO l y)).rep aS (fresh wr aS) b3) (aB:aU.ownsRow (w.heap.size+3) 53 4 (.slice cE (k+1) c3) (k+1) (xs++b3)) (a9:aS.grownBy aU (Value.slice I k aK).ownBlock)
  (O:(Value.slice cE (k+1) c3).ownBlock=(Value.slice I k aK).ownBlock\/(Value.slice cE (k+1) c3).ownBlock=some (aS.heap.size+1)) (hX:aU.setCell ⟨w.heap.size+2,3,none⟩ (.slice cE (k+1) c3)=X) :
  zw w X l x A m c (k+1) cE c3 (xs++b3):=by
 have al:∀g,(Value.slice I k aK).ownBlock=some g->w.heap.size+3<=g/\g<wr.heap.size:=λg a9=>h.own.lt g a9;have d:=h.b8.lt;have e1:=he.size;have e2:=a9.size;have b5:=cO hX;have a:∀b,b<aS.heap.size->b≠w.heap.size+2->some b≠(Value.slice I k aK).ownBlock->X.heap[b]?=aS.heap[b]?:=λb ac au aY=>(b5.block b ad au).trans (a9.block b ac aY);have bf:∀b,b<w.heap.size+3->some b≠(Value.slice I k aK).ownBlock:=λb O he=>by have:=al b he.symm;omega
 have cd:∀b,b<wr.heap.size->b≠w.heap.size+2->some b≠(Value.slice I k aK).ownBlock->X.heap[b]?=wr.heap[b]?:=λb ac au aY=>(a b ad au aY).trans (he.block b ac λh=>h);have H:X.heap.size=aU.heap.size:=by rw[<-hX];simp
 refine⟨?_,?_,?_,?_,?_,?_⟩
 .refine⟨?_,?_,?_,by have:=h.ext.size;omega,λb O _=>?_⟩
  .exact b5.os.trans (a9.os.trans (he.os.trans h.ext.os))
  .exact b5.tape.trans (a9.tape.trans (he.tape.trans h.ext.tape))
  .exact b5.output.trans (a9.output.trans (he.output.trans h.ext.output))
  .have:=h.ext.size;exact(cd b ad ad (bf b ad)).trans (h.ext.block b O λh=>h)
 .exact(cd _ ad ad (bf _ ad)).trans h.b4
 .exact(cd _ ad ad (bf _ ad)).trans h.b6
 .have cP:aq aU (w.heap.size+2) 53 #[.int .i64 x.bg,.int .i64 x.numOf,.string ⟨#[]⟩,.slice I k aK]:=(h.b8.aj he).grown a9 (bf _ ad);rw[<-hX];exact cP.aM 3 _
 .refine⟨aB.1,?_⟩;rcases aB.2 with au|⟨g,cap,cur,bG,j,aV,rest⟩
  .exact .inl au
  .exact .inr ⟨g,cap,cur,bG,j,(b5.block g (Array.getElem?_eq_some_iff.1 aV).1 ad).trans aV,rest⟩
 .rw[List.take_add_one,bb,Lr];refine D.cI ?_ ?_
  .refine D.bZ (λb a1=>⟨a1.1,by have:=a1.2.1;omega,λhc=>?_⟩) _ _ (D.bY (λb a1=>cd b a1.2.1 (aD a1.1) λhe=>a1.2.2 he.symm) _ _ h.aQ);rcases O with O|O
   .rw[O] at hc;exact a1.2.2 hc
   .rw[O] at hc;injection hc with hc;have:=a1.2.1;omega
  .simp only[Option.toList_some,Lq,LK];rw[D.bm];refine D.aL (λb a1=>⟨by have:=a1.1;omega,by have:=a1.2;omega,λhc=>?_⟩) _ _ (D.aS (λb a1=>a b a1.2 (aD a1.1) λhe=>by have:=(al b he.symm).2;have:=a1.1;omega) _ _ ba);rcases O with O|O
   .rw[O] at hc;have:=(al b hc).2;have:=a1.1;omega
   .rw[O] at hc;injection hc with hc;have:=a1.2;omega
theorem w6(l:List dO)(x:VE)(h:(∃op y,x=.un op y)\/∃op y z,x=.bin op y z):(bO l x).bg=x.bg/\(bO l x).numOf=x.numOf/\(bO l x).bA=⟨#[]⟩/\(bO l x).args=x.args.map (bO l):=by
 rcases h with⟨op,y,rfl⟩|⟨op,y,z,rfl⟩<;>exact⟨rfl,rfl,rfl,rfl⟩
theorem x8{w:World}{g:Nat}{bt:Value}{cs:Array Value}(hs:cs.size=4)(aR:aq V g 53 cs)(aw:Ext w V)(a9:w.heap.size<=g)(hX:(((V.setCell ⟨g,0,none⟩ v0).setCell ⟨g,1,none⟩ v1).setCell ⟨g,2,none⟩ v2).setCell ⟨g,3,none⟩ bt=X):
  aq X g 53 #[v0,v1,v2,bt]/\Ext w X/\Fr (λb=>b=g) V X:=by
 subst hX;refine⟨?_,(((aw.setCell (.inr a9) _).setCell (.inr a9) _).setCell (.inr a9) _).setCell (.inr a9) _,((((Fr.refl (λb=>b=g) V).setCell (.inl rfl) _).setCell (.inl rfl) _).setCell (.inl rfl) _).setCell (.inl rfl) _⟩;have:=(((aR.aM 0 v0).aM 1 v1).aM 2 v2).aM 3 bt
 match cs,hs with
 | ⟨[c0,c1,c2,c3]⟩,_=>exact this
namespace B1
theorem pJ(h:p:=by
 have ci:m<=2:=by rw[<-hs.1,Lo];exact x1 x
 have cf:x.args.length=m:=by rw[<-hs.1,Lo]
 obtain⟨bJ,b8,bq,ck⟩:=iX cf bU hs ao;have cq:=ae (w6 l x r);clear ba ao bU hs cf r;go_enter func157,ntmps157;go_upto_region 1 with(fail);generalize be:World.alloc _ _=W;have aw:=iS be;have b4:=gG be;have cF:=gf be;have c5:W.heap.size=w.heap.size+2:=by rw[<-be];simp
 clear be;obtain⟨a0,aj,af⟩:=b4.two;go_upto_region 7 with(fail);generalize hV:World.alloc _ _=V;have L:=aW hV;have hC:aq V (w.heap.size+2) 53 #[.int .i64 x.bg,.int .i64 x.numOf,.string ⟨#[]⟩,.slice none 0 0]:=hV▸aq.gC _ _ _ c5.symm;have HA:=ae (show zw w V l x A m c 0 none 0 [] from ⟨aw.trans L,b4.aj L,cF.aj L,hC,⟨by simp,.inl ⟨rfl,rfl⟩⟩,by simp only[List.take_zero,LK,D.aQ]⟩);clear hV L hC b4 cF aw c5 a0 aj af;go_wp2;go_loopw [9] (λbg wr=>∃(k:Nat) (I:L3) (aK:Nat) (xs:List Value),k<=m/\bg=.int .i64 k/\zw w wr l x A m c k I aK xs) (λbg _=>m - (intOf bg).toNat)
 case atStart=>exact⟨0,none,0,[],ad,rfl,HA.o⟩
 case round=>
  obtain⟨k,I,aK,xs,ap,rfl,aX⟩:=hrel;clear HA;have HA:=ae aX;obtain⟨a0,aj,af⟩:=aX.b4.two;obtain⟨a7,am,aF⟩:=aX.b6.two;obtain⟨e0,a6,aP⟩:=aX.b8.two;by_cases al:k<m
  .obtain⟨b,o,y,cs,rfl,O,bb,Q,a8,Z⟩:=(bq.on (Fr.ext aX.ext)).g6 db al
   match cs,a8 with
   | [b2,cG,ch,bA],_=>
   have c0:=Z 0 b2 rfl;have c1:=Z 1 cG rfl;have c2:=Z 2 ch rfl;have c3:=Z 3 bA rfl;simp only[Lu] at c0;have aT:b<wr.heap.size:=O;obtain⟨B,bF,bc,e,cv,ak⟩:=a5.1 Q;simp only[List.cons.injEq,and_true] at e;obtain⟨rfl,rfl,rfl,rfl⟩:=e;obtain⟨bu,H⟩:=aJ bb Q;have bV:=ae (ck.o k y bb);have F:=ae (b8.on aX.ext);clear bb Q ak Z O aX a7 am aF;go_wp2;refine eC (λ_=>False) [(0,3),(1,0),(2,3),(3,3),(4,0),(5,3),(6,3),(7,0),(8,3),(9,1),(10,1),(11,2),(12,3),(13,2)] ?_;refine pf ?_;refine ph ?_
   iterate 2 refine pf ?_
   refine ph ?_
   iterate 2 refine pf ?_
   refine ph ?_;refine pf ?_;refine aG rfl (λK hK=>?_);go_simp;refine(bV.o g st _ _ _ _ _ _ _ (F.on LW.drew) (D.on H.o (Fr.ext LW.drew))).mono ?_;rintro e aS ⟨o1,n1,s1,bZ,de,cr,rfl,cW,ar⟩;refine dq hK (ar) ?_;clear hK K;have aN:Ext wr aS:=Fr.aF ar;have G:(bp (bO l y)).rep aS (fresh wr aS) [.int .i64 o1,.int .i64 n1,.string s1,.slice bZ de cr]:=cW;have av:=ag aN G;refine rz ?_;refine ax rfl (λK hK=>?_);rw[if_pos (by rfl)];have cP:w.heap.size+3<=aS.heap.size:=by have:=HA.b8.lt;have:=aN.size;omega
   refine yy _ pP (.tmp 40) (.tmp 49) (by rfl) (w.heap.size+3) (.slice I k aK) k xs _ (by rfl) (b3 HA.own (Fr.ext aN)) (by rfl) (by rfl) (by simp[Value.oneCell']) ad ad cP ?_;intro v2 aU az bH E;obtain⟨cE,bk,rfl,bh,_⟩:=b5 az;have i:aq aU (w.heap.size+2) 53 _:=(HA.b8.aj aN).grown bH (λhe=>by have:=HA.own.lt _ he.symm;omega);have bY:=aE az bH E;clear az bH E cW G ar a0 aj af e0 a6 aP c0 c1 c2 c3 aT;obtain⟨e0,a6,aP⟩:=i.two;refine dP hK ?_;clear hK K;refine pf ?_;refine ax rfl (λK hK=>?_);go_simp;refine dP hK ?_;clear hK K;refine aC ?_;clear e0 a6 aP;generalize hX:World.setCell aU _ _=X;have cn:=ae (HA.next bu.o av.1 av.2 bY.1 bY.2.1 bY.2.2 hX);clear hX i aN;go_wp2;go_roundw
   case rel=>exact⟨k+1,cE,bk,_,ad,by go_num,cn.o⟩
   case measure=>exact aH
  .obtain rfl:m=k:=ad;clear aX;go_wp2;generalize hX:World.setCell _ _ _=X;obtain⟨bD,a4,a2⟩:=x8 rfl HA.b6 HA.ext (Nat.le_succ _) hX;obtain⟨bl,aA,aO⟩:=bD.two;clear a0 aj af a7 am aF e0 a6 aP;refine LU (v:=.agg #[.int .i64 x.bg,.int .i64 x.numOf,.string ⟨#[]⟩,.slice I m aK]) (by simp[results,Tryz.results157,go_sem,bl]) rfl ?_;refine⟨_,_,_,_,_,_,rfl,?_,a4⟩;obtain⟨ac,au,aY,bR⟩:=cq.o;have aB:=HA.own;obtain⟨_,_,bG,hle,_⟩:=b5 aB;injection bG with eh u hv3;have b1:=HA.aQ;have al:∀g,(Value.slice I m aK).ownBlock=some g->w.heap.size+3<=g/\g<wr.heap.size:=λg a9=>aB.lt g a9;have bo:X.heap.size=wr.heap.size:=by rw[<-hX];simp
   rw[<-bJ.o,List.take_length] at b1;refine a5.2 ⟨I,m,aK,by rw[ac,au,aY],ad,?_⟩;rw[bR,List.map_map];have f:X.ownsRow (w.heap.size+3) 53 4 (.slice I m aK) m xs:=by
    refine⟨aB.1,?_⟩;rcases aB.2 with au|⟨g,cap,cur,bG,j,aV,rest⟩
    .exact .inl au
    .exact .inr ⟨g,cap,cur,bG,j,(a2.block g (Array.getElem?_eq_some_iff.1 aV).1 ad).trans aV,rest⟩
   refine Sl.qB f (D.bZ (λb a1=>⟨by have:=a1.1;omega,by have:=a1.2.1;omega⟩) _ _ (D.bY (λb a1=>a2.block b a1.2.1 (aD a1.1)) _ _ b1)) (by rw[Lo];exact bJ.o) (λg _ ac au=>⟨ad,au⟩)
 ):p:=h
end B1
open B1 in
theorem rX(l:List dO)(x:VE)(r:(∃op y,x=.un op y)\/∃op y z,x=.bin op y z)(cN:(x.bg == 2)=false)(ao:∀(k:Nat) (y:VE),x.args[k]?=some y->pD l y):pD l x:=by
 intro g st op n s A m c w bU ba;exact pI
def VE.leaf:VE->Prop
 | .un _ _=>False
 | .bin _ _ _=>False
 | _=>True
namespace B2
theorem pJ(h:p:=by
 have ci:m<=2:=by rw[<-hs.1,Lo];exact x1 x
 have cf:x.args.length=m:=by rw[<-hs.1,Lo]
 obtain⟨b8,bq,ck⟩:=ek bU hs ao;clear ba ao bU hs;go_enter func157,ntmps157;go_upto_region 1 with(fail);generalize be:World.alloc _ _=W;have aw:=iS be;have b4:=gG be;have cF:=gf be;have c5:W.heap.size=w.heap.size+2:=by rw[<-be];simp
 clear be;obtain⟨bo,T,cp⟩:=ek aw b4 cF;obtain⟨a0,aj,af⟩:=b4.two;obtain⟨a7,am,aF⟩:=cF.two;clear aw b4 cF
 cases x with
 | loc j=>exact hx.elim
 | iF j=>exact hx.elim
 | g7 s=>
  obtain⟨v,J,ap⟩:=hx;have d:=ae (show bO l (.g7 s)=if v.kind=1 then .iF v.n else .loc v.n by unfold bO;simp only[J]);simp only[VE.bg,VE.numOf,VE.bA] at *;go_wp2_with(fail);refine(nj g l s v J ap st W (b8.on bo.o)).mono ?_;rintro e aS ⟨rfl,ar⟩;have bx:=ae (bo.trans ar);have i:=ae (cp.aj ar);clear ar a0 aj af a7 am aF J;obtain⟨bi,cS,cJ⟩:=v;simp only[rv] at *;go_upto_region 3 with(fail);generalize hV:World.alloc _ _=V;have L:=aW hV;have aX:=ae (bx.trans L);have u:=ae (i.aj L);have hC:=aI hV;obtain⟨a0,aj,af⟩:=hC.two;obtain⟨a7,am,aF⟩:=u.two;clear hV L hC;rcases ap with rfl|rfl
  .go_wp2;generalize hX:World.setCell _ _ _=X;obtain⟨bD,a4,_⟩:=x8 rfl u.o aX.o (Nat.le_succ _) hX;obtain⟨e0,a6,aP⟩:=bD.two;clear a0 aj af a7 am aF;refine LU (v:=.agg #[.int .i64 19,.int .i64 cJ,.string ⟨#[]⟩,.slice none 0 0]) (by simp[results,Tryz.results157,go_sem,e0]) rfl ?_;refine⟨_,_,_,_,_,_,rfl,?_,a4⟩;rw[show bO l (.g7 s)=.iF cJ by simpa using d.o];exact a5.2 ⟨none,0,0,rfl,Lk _,Sl.bR _⟩
  .go_wp2;generalize hX:World.setCell _ _ _=X;obtain⟨bD,a4,_⟩:=x8 rfl u.o aX.o (Nat.le_succ _) hX;obtain⟨e0,a6,aP⟩:=bD.two;clear a0 aj af a7 am aF;refine LU (v:=.agg #[.int .i64 18,.int .i64 cJ,.string ⟨#[]⟩,.slice none 0 0]) (by simp[results,Tryz.results157,go_sem,e0]) rfl ?_;refine⟨_,_,_,_,_,_,rfl,?_,a4⟩;rw[show bO l (.g7 s)=.loc cJ by simpa using d.o]
   exact a5.2 ⟨none,0,0,rfl,Lk _,Sl.bR _⟩
 | num n=>
  obtain rfl:0=m:=cf;simp only[VE.bg,VE.numOf,VE.bA] at *;go_upto_region 7 with(fail);generalize hV:World.alloc _ _=V;have L:=aW hV;have aX:=ae (bo.trans L);have u:=ae (cp.aj L);have hC:aq V (w.heap.size+2) 53 #[.int .i64 1,.int .i64 n,.string ⟨#[]⟩,.slice none 0 0]:=hV▸aq.gC _ _ _ c5.symm;have f:=T.aj L;clear a0 aj af a7 am aF;obtain⟨c0,bR,bu⟩:=f.two;obtain⟨a0,aj,af⟩:=hC.two;obtain⟨a7,am,aF⟩:=u.two;clear hV L hC f;go_wp2;refine wp_loop_rounds 1 ?_;rw[rounds_succ];go_wp2;generalize hX:World.setCell _ _ _=X;obtain⟨bD,a4,_⟩:=x8 rfl u.o aX.o (Nat.le_succ _) hX;obtain⟨e0,a6,aP⟩:=bD.two;clear a0 aj af a7 am aF;refine LU (v:=.agg #[.int .i64 1,.int .i64 n,.string ⟨#[]⟩,.slice none 0 0]) (by simp[results,Tryz.results157,go_sem,e0]) rfl ?_
  exact⟨_,_,_,_,_,_,rfl,a5.2 ⟨none,0,0,rfl,Lk _,Sl.bR _⟩,a4⟩
 | un op y=>exact cE.elim
 | bin op y z=>exact cE.elim
 ):p:=h
end B2
open B2 in
theorem rY(l:List dO)(x:VE)(hx:fV l x)(cE:x.leaf)(ao:∀(k:Nat) (y:VE),x.args[k]?=some y->pD l y):pD l x:=by
 intro g st op n s A m c w bU ba;exact pI
theorem k7(l:List dO)(x:VE)(hx:fV l x)(ao:∀(k:Nat) (y:VE),x.args[k]?=some y->pD l y):pD l x:=by
 cases x with
 | un op y=>exact rX l _ (.inl ⟨_,_,rfl⟩) (by rcases hx.1 with h|h<;>(show (op == 2)=false;rw[h];rfl)) ao
 | bin op y z=>exact rX l _ (.inr ⟨_,_,_,rfl⟩) (by have:=hx.1.1;show (op == 2)=false;simp;omega) ao
 | num n=>exact rY l _ hx trivial ao
 | g7 n=>exact rY l _ hx trivial ao
 | loc j=>exact hx.elim
 | iF j=>exact hx.elim
theorem gk(l:List dO):∀(x:VE),fV l x->pD l x
 | .num n,h=>k7 l _ h λk y bb=>by simp[VE.args] at bb
 | .g7 n,h=>k7 l _ h λk y bb=>by simp[VE.args] at bb
 | .loc n,h=>h.elim
 | .iF n,h=>h.elim
 | .un op y,h=>k7 l _ h λk z bv=>by
  match k,bv with
  | 0,bv=>simp[VE.args] at bv;subst bv;exact gk l y h.2
 | .bin op x y,h=>k7 l _ h λk z bv=>by
  match k,bv with
  | 0,bv=>simp[VE.args] at bv;subst bv;exact gk l x h.2.1
  | 1,bv=>simp[VE.args] at bv;subst bv;exact gk l y h.2.2
structure yC(w:World)(g:Nat)(M:List bD):Prop where
 lt:g<w.heap.size
 ex:∃A n c,n<=1000000/\w.cell? ⟨g,1,none⟩=some (.slice A n c)/\Sl w (av w) A n (M.map eD)
theorem yC.on{w ab:World}{g:Nat}{M:List bD}(h:yC w g M)(O:Ext w ab):yC ab g M:=by
 exact DL
def qN(M:List bD)(l:List dO)(r:eS):Prop:=∃v,dD l r.name=some v/\
 ((v.kind=5/\r.idx=none)\/(v.kind=2/\∃m,0<=v.n/\M[v.n.toNat]?=some m/\(0<m.size->∃e,r.idx=some e/\fV l e)/\(¬0<m.size->r.idx=none)))
theorem dX{w:World}{p:bN}:(dk p).rep w P cs↔∃A n c,cs=[.bool p.param,.int .i64 p.index,.slice A n c]/\n<=c/\Sl w P A n (p.at_.toList.map bp):=by
 unfold dk;rw[bM,fv];constructor
 .rintro⟨y,rfl,h⟩;rw[bq] at h;obtain⟨ch,rfl,h⟩:=h;rw[aN] at h;obtain⟨A,n,c,bA,rfl,hc,hs,aY⟩:=h;exact sI
 .rintro⟨A,n,c,rfl,hc,hs⟩;exact⟨_,rfl,bq.2 ⟨_,rfl,aN.2 ⟨A,n,c,[],rfl,hc,hs,aP.2 rfl⟩⟩⟩
theorem qe{w:World}{g:Nat}{c0 c1 c2:Value}(aR:aq V g t #[c0,c1,c2])(aw:Ext w V)(a9:w.heap.size<=g)(hX:((V.setCell ⟨g,0,none⟩ v0).setCell ⟨g,1,none⟩ v1).setCell ⟨g,2,none⟩ v2=X):
  aq X g t #[v0,v1,v2]/\Ext w X/\Fr (λb=>b=g) V X:=by
 subst hX;exact⟨((aR.aM 0 v0).aM 1 v1).aM 2 v2,((aw.setCell (.inr a9) _).setCell (.inr a9) _).setCell (.inr a9) _,(((Fr.refl (λb=>b=g) V).setCell (.inl rfl) _).setCell (.inl rfl) _).setCell (.inl rfl) _⟩
def HH(w:World)(p:bN)(e:Ending)(ab:World):Prop:=
 ∃(b:Bool) (i:Int) (A:L3) (n c:Nat),e=.returned (.agg #[.bool b,.int .i64 i,.slice A n c])/\(dk p).rep ab (fresh w ab) [.bool b,.int .i64 i,.slice A n c]/\Ext w ab
def vF:Prop:=∀(g:Nat) (l:List dO) (M:List bD) (r:eS),qN M l r->∀(st:Int) (s:ByteArray) (A:L3) (n c:Nat) (w:World),tY w g l->yC w g M->(kG r).rep w (av w) [.string s,.slice A n c]->
  Calls prog 160 #[.pointer (some ⟨g,0,none⟩),.agg #[.string s,.slice A n c],.int .i64 st] w (HH w (mo l r))
theorem EL{w ab:World}{B e z:Nat}{v:Value}(h:w.ownsRow B e z v n xs)(ap:∀b,B<=b->b<w.heap.size->ab.heap[b]?=w.heap[b]?):ab.ownsRow B e z v n xs:=by
 refine⟨h.1,?_⟩;rcases h.2 with au|⟨ag,cap,cur,bG,j,aV,rest⟩
 .exact .inl au
 .exact .inr ⟨ag,cap,cur,bG,j,(ap ag j (Array.getElem?_eq_some_iff.1 aV).1).trans aV,rest⟩
namespace Co
theorem dE(h:p:=by
 clear bL aY a8;generalize b6:World.setCell aU _ _=bT;have cz:=cO b6;have bW:aq bT X.heap.size 55 #[.bool false,.int .i64 mi,.slice cE 1 bk]:=b6▸bj.aM 2 _;have al:=ah.on cz ad;have bn:=ab.on cz ad;have j:=ae cz;clear b6 bj ah ab cz;obtain⟨a0,aj,af⟩:=bn.two;obtain⟨bL,aY,a8⟩:=bW.two;obtain⟨d6,dy,dz⟩:=al.two;go_wp2;rw[rounds_succ];go_wp2;generalize cu:World.setCell _ _ _=Y;obtain⟨az,aN,aZ⟩:=bY.o;have bw:=aZ.size;have a3:=aN.size;have bC:=j.size;have b0:Ext w bT:=⟨j.os.trans ((bd.trans (aN.trans aZ)).os),j.tape.trans ((bd.trans (aN.trans aZ)).tape),j.output.trans ((bd.trans (aN.trans aZ)).output),LD (bd.trans (aN.trans aZ)).size bC,
  λk ap _=>(j.block k (Ll ap (bd.trans (aN.trans aZ)).size) ad).trans ((bd.trans (aN.trans aZ)).block k ap λh=>h)⟩
 obtain⟨bK,bt,bR⟩:=qe al b0 (Nat.le_succ _) cu;obtain⟨bl,aA,aO⟩:=bK.two;refine LU (v:=.agg #[.bool false,.int .i64 mi,.slice cE 1 bk]) (by simp[results,Tryz.results160,go_sem,bl]) rfl ?_;refine⟨_,_,_,_,_,rfl,?_,bt⟩;rw[bA.o];refine dX.2 ⟨cE,1,bk,rfl,ad,?_⟩;simp only[hx,Option.map_some,Option.toList_some,Lq,LK];have cV:=bR.size;have fN:=cX.lt;have cl:∀b,dx.heap.size<=b->b<aU.heap.size->Y.heap[b]?=aU.heap[b]?:=λb ac au=>(bR.block b ad ad).trans (j.block b au ad);have f:=EL az cl;simp only[LF,LN] at f;refine Sl.qB f ?_ rfl (λag _ ac au=>⟨ad,au⟩);rw[D.bm];exact D.aL (λb a1=>⟨by have:=a1.1;omega,by have:=a1.2;omega⟩) _ _ (D.aS (λb a1=>(cl b a1.1 (aD a1.2)).trans (aZ.block b a1.2 λh=>h)) _ _ av.o)
 ):p:=h
theorem A7(h:p:=by
 refine dr rfl (by rfl) ?_
 try simp only[PU]
 refine dr rfl (by rfl) ?_
 try simp only[PU]
 refine iq rfl (by rfl) ?_
 try simp only[PU]
 refine dr rfl (by rfl) ?_
 try simp only[PU]
 iterate 2 refine pf ?_
 refine aC ?_;go_wp2;refine wp_loop_rounds 1 ?_;rw[rounds_succ];go_wp2;generalize cu:World.setCell _ _ _=Y;obtain⟨bK,bt,_⟩:=qe bb.o bd.o (Nat.le_succ _) cu;obtain⟨bl,aA,aO⟩:=bK.two;clear cu;refine LU (v:=.agg #[.bool true,.int .i64 cJ,.slice none 0 0]) (by simp[results,Tryz.results160,go_sem,bl]) rfl ?_;exact zO
 ):p:=h
theorem eU(h:p:=by
 refine tf ?_;refine b9 ?_;generalize hX:World.setCell _ _ _=X;obtain⟨br,bs,_⟩:=qe b7 bm ai hX;have aX:=ae (bo.trans bs);have bu:=ae (T.aj bs);have u:=ae (cp.aj bs);clear hX a7 am aF b7 bm ai;obtain⟨a7,am,aF⟩:=br.two;go_upto_region 6 with(fail);generalize hV:World.alloc _ _=dx;have L:=aW hV;have dp:=br.aj L;have a6:=aI hV;have bd:=ae (aX.trans L);have N:=bu.aj L;have bb:=ae (u.aj L);have H:w.heap.size+2<=X.heap.size:=u.lt;obtain⟨bB,cX⟩:=aJ N a6;clear hV L br a7 am aF;obtain⟨a7,am,aF⟩:=dp.two;obtain⟨a0,aj,af⟩:=N.two;obtain⟨bL,aY,a8⟩:=a6.two;obtain⟨d6,dy,dz⟩:=bb.two;have b1:w.heap.size+2<=dx.heap.size:=ad;clear dp N a6;obtain⟨bi,cS,cJ⟩:=v;simp only at *;rcases c8.o with⟨cI,an⟩|⟨au,m,h0,hm,da,c3⟩
 .subst cI;have aM:n=0:=by have:=bq.1;rw[an] at this;exact this.symm
  subst aM;go_wp2;refine eC (λ_=>False) [(0,3),(1,0),(2,3),(3,3),(4,3),(5,3),(6,3),(7,3),(8,0),(9,3),(10,0),(11,3),(12,3),(13,0),(14,3),(15,3),(16,3)] ?_;refine pf ?_;refine ph ?_
  iterate 2 refine pf ?_
  refine dr rfl (by rfl) ?_;exact A6
 .subst au;obtain⟨mi,rfl⟩:=Lp h0;rw[LI] at hm;obtain⟨_,MA,mn,mc,b3,cb,F⟩:=cR.on bd.o;have aV:mi<mn:=by have:=(List.getElem?_eq_some_iff.1 hm).1;have:=F.1;rw[Lo] at this;omega
  obtain⟨ht,bE,bP,cs,rfl,cc,aQ,bI,bG,bg⟩:=F.g6 (z:=3) (λ_=>rfl) aV;rw[hm] at aQ;injection aQ with aQ;subst aQ;obtain rfl:=fh.1 bI;have f2:=bg 2 _ rfl;have bD:ht<dx.heap.size:=cc;have bH:g<dx.heap.size:=Ll b8.lt bd.size;clear F bG bg bI cc;by_cases bv:0<m.size
  .have bJ:decide (m.size > 0)=true:=by simpa using bv
   obtain⟨x,hx,ay⟩:=da bv;have aH:=bq.on (Fr.ext bd.o);rw[hx] at aH;obtain rfl:1=n:=aH.1;obtain⟨b,o,bx,Z,a4,E,rfl,O,aB,e0,e1,e2,e3⟩:=Sl.EI aH (db x);obtain⟨B,bF,bc,e,cv,ak⟩:=a5.1 aB;simp only[List.cons.injEq,and_true] at e;obtain⟨rfl,rfl,rfl,rfl⟩:=e;have aT:b<dx.heap.size:=O;have U:=ae aB;have bV:=ae (gk l x ay);have bN:=ae (b8.on bd.o);clear aB ak O aH da c3;go_wp2;refine eC (λ_=>False) [(0,3),(1,0),(2,3),(3,3),(4,3),(5,3),(6,3),(7,3),(8,0),(9,3),(10,0),(11,3),(12,3),(13,0),(14,3),(15,3),(16,3)] ?_;refine pf ?_;refine ph ?_
   iterate 6 refine pf ?_
   refine ph ?_;refine pf ?_;refine ph ?_
   iterate 2 refine pf ?_
   refine ph ?_
   iterate 3 refine pf ?_
   refine aC ?_;go_wp2;refine wp_loop_rounds 2 ?_;rw[rounds_succ];go_wp2;refine eC (λ_=>False) [(0,3),(1,0),(2,3),(3,3),(4,0),(5,3),(6,3),(7,0),(8,3),(9,1),(10,1),(11,2),(12,3),(13,2)] ?_;refine pf ?_;refine bS (v:=?_) rfl (by rfl) (λV hV=>?_) ?_;rotate_left
   .obtain⟨hVc,hVf⟩:=Fr.jr hV
    (go_simp<;>with_reducible rfl)
   try simp only[PU]
   iterate 2 refine pf ?_
   refine bS (v:=?_) rfl (by rfl) (λV hV=>?_) ?_;rotate_left
   .obtain⟨hVc,hVf⟩:=Fr.jr hV
    (go_simp<;>with_reducible rfl)
   try simp only[PU]
   iterate 2 refine pf ?_
   refine bS (v:=?_) rfl (by rfl) (λV hV=>?_) ?_;rotate_left
   .obtain⟨hVc,hVf⟩:=Fr.jr hV
    (go_simp<;>with_reducible rfl)
   try simp only[PU]
   refine pf ?_;refine aG rfl (λK hK=>?_);go_simp;refine(bV.o g st _ _ _ _ _ _ _ (bN.on LW.drew.drew) (D.on U.o (Fr.ext LW.drew.drew))).mono ?_;rintro e aS ⟨o1,n1,s1,bZ,de,cr,rfl,cW,ar⟩;refine dq hK (ar) ?_;clear hK K;have aN:Ext dx aS:=Fr.aF (Fr.aF ar);have G:(bp (bO l x)).rep aS (fresh dx aS) [.int .i64 o1,.int .i64 n1,.string s1,.slice bZ de cr]:=cW;have av:=ae G;refine rz ?_;refine ax rfl (λK hK=>?_);rw[if_pos (by rfl)];have a3:=aN.size;refine yy _ pP (.tmp 79) (.tmp 88) (by rfl) dx.heap.size (.slice none 0 0) 0 [] _ (by rfl) ⟨by simp,.inl ⟨rfl,rfl⟩⟩ (by rfl) (by rfl) (by simp[Value.oneCell']) ad ad a3 ?_;intro v2 aU az bf _;obtain⟨cE,bk,rfl,bh,_⟩:=b5 az;have aZ:Ext aS aU:=LW.grown bf (by simp[Value.ownBlock]);have bj:=(cX.aj aN).aj aZ;have ah:=(bb.aj aN).aj aZ;have ab:=(bB.aj aN).aj aZ;have bY:=aE az aN aZ;clear az bf cW G ar aN aZ a0 aj af a7 am aF bL aY a8 d6 dy dz e0 e1 e2 e3 aT f2 bD bH cb;obtain⟨bL,aY,a8⟩:=bj.two;exact s0
  .have bJ:decide (m.size > 0)=false:=by simp;omega
   have an:=c3 ad;have aM:n=0:=by have:=bq.1;rw[an] at this;exact this.symm
   subst aM;clear da c3;go_wp2;refine eC (λ_=>False) [(0,3),(1,0),(2,3),(3,3),(4,3),(5,3),(6,3),(7,3),(8,0),(9,3),(10,0),(11,3),(12,3),(13,0),(14,3),(15,3),(16,3)] ?_;refine pf ?_;refine ph ?_
   iterate 6 refine pf ?_
   refine ph ?_;refine pf ?_;refine ph ?_
   iterate 2 refine pf ?_
   refine ph ?_
   iterate 3 refine pf ?_
   refine aC ?_;go_wp2;refine wp_loop_rounds 1 ?_;rw[rounds_succ];go_wp2;generalize cu:World.setCell _ _ _=Y;obtain⟨bK,bt,_⟩:=qe bb.o bd.o (Nat.le_succ _) cu;obtain⟨bl,aA,aO⟩:=bK.two;clear cu;refine LU (v:=.agg #[.bool false,.int .i64 mi,.slice none 0 0]) (by simp[results,Tryz.results160,go_sem,bl]) rfl ?_;exact zO
 ):p:=h
theorem v7(h:p:=by
 refine(dZ S ln lc l r.name V.drew (ch.on (Fr.ext bm.drew)) du).mono ?_;rintro e aS ⟨rfl,ar⟩;rw[bX.o];simp only[iZ,rv];refine dP hK ?_;clear hK K
 iterate 3 refine tf ?_
 have cG:=aR.aj (Fr.aF ar);have aN:=bm.trans (Fr.aF ar);clear aR bm ar;exact key W.heap.size aS ⟨aN,cG,Lk _⟩
 ):p:=h
theorem AW(h:p:=by
 refine ly (P:=?P1) (ops:=?o1) (Q:=?q1) (R:=?r1) (tails:=?t1) (rest:=.pick [11] (λ_=>.free 12 (.stop))) (aa:=?aa) (C:=λc9 V=>Ext W V/\aq V c9 166 #[.string ⟨#[]⟩,.int .i64 0,.int .i64 0]/\W.heap.size<=c9) (λkey=>?main) ?key
 case main=>
  refine a2 ?_ ?_
  ·
   refine bQ rfl (λK hK=>?_) rfl;go_simp;refine(dZ S ln lc l r.name W.drew (ch.on (Fr.ext LW.drew)) du).mono ?_;rintro e aS ⟨rfl,ar⟩;rw[bX.o];simp only[iZ,rv];refine dP hK ?_;clear hK K
   iterate 3 refine tf ?_
   refine ao ?_;refine dT ?_;generalize hV:World.alloc _ _=V;have aR:=aI hV;have bm:Ext W V:=hV▸(Fr.aF ar).alloc _;exact DO
  ·
   exact v5
 case key=>
  rintro c9 V ⟨bm,b7,ai⟩;have c5:=cp.lt;have bz:=T.lt;obtain⟨a7,am,aF⟩:=b7.two;clear a0 aj af cT;exact fp
 ):p:=h
end Co
open Co in
theorem Gg:vF:=by
 intro g l M r bM st s A n c w bU hM ba;obtain⟨I,aP,aK,e,aL,hs⟩:=jD.1 ba;simp only[List.cons.injEq,Value.string.injEq,Value.slice.injEq,and_true] at e;obtain⟨rfl,rfl,rfl,rfl⟩:=e;obtain⟨v,J,ap⟩:=bM;have c8:=ae ap;have bA:=ae (show mo l r=⟨v.kind == 5,v.n,r.idx.map (bO l)⟩ by unfold mo;simp only[J]);obtain⟨bX,b8,cR,bq⟩:=iX J bU hM hs;clear ba hs bU hM ap J;go_enter func160,ntmps160;go_wp2;generalize be:World.alloc _ _=W;have aw:=iS be;have b4:=gG be;have cF:=gf be;clear be;obtain⟨bo,T,cp⟩:=ek aw b4 cF;obtain⟨a9,S,ln,lc,du,cT,y⟩:=b8.on aw;have ch:=ae y;obtain⟨a0,aj,af⟩:=b4.two;clear aw b4 cF y;exact AV
end Go.Proofs.YtkhnkojkplbioaaGreat
