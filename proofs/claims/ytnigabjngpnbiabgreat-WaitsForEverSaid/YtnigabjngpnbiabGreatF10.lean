/- Part 10 of the proof. No condition of its own. -/
import Derived.Test.YtnigabjngpnbiabGreatF05
import Derived.Test.YtnigabjngpnbiabGreatF07
import Derived.Test.YtnigabjngpnbiabGreatF09
namespace Go.Proofs.YtnigabjngpnbiabGreat
open Go.RowKit Go.Proofs.Tryz
set_option maxRecDepth 1000000
set_option maxHeartbeats 25600000
set_option linter.unusedVariables false
variable{s:ByteArray}{d:D}{cs:List Value}{l:List dS}{k n:Nat}{P:Nat->Prop}{A:NH}{p:Prop}{t:TypeId}{v0 v1 v2:Value}{V X aO:World}{e:dS}
theorem hb{w:World}{l:List D}:D.aQ w P (d::l) cs↔∃x y,cs=x++y/\d.rep w P x/\D.aQ w P l y:=by simp only[D.aQ]
theorem jR{w:World}{r:eY}:(kW r).rep w P cs↔∃A n c,cs=[.string r.name,.slice A n c]/\n<=c/\Sl w P A n (r.idx.toList.map bo):=by
 unfold kW;rw[bK,cx];constructor
 .rintro⟨y,rfl,h⟩;rw[aN] at h;obtain⟨A,n,c,bv,rfl,hc,hs,aV⟩:=h;exact yv
 .rintro⟨A,n,c,rfl,hc,hs⟩;exact wx
def b2(e:dS):D:=.st [.s e.name,.i e.kind,.i e.n]
theorem zD(e:dS):(b2 e).sz=3:=rfl
theorem iQ{w:World}:(b2 e).rep w P cs↔cs=[.string e.name,.int .i64 e.kind,.int .i64 e.n]:=by
 unfold b2;rw[bK,cx];constructor
 .rintro⟨y,rfl,h⟩;rw[bj] at h;exact AQ
 .rintro rfl;exact⟨_,rfl,bj.2 ⟨_,rfl,bj.2 ⟨_,rfl,aR.2 rfl⟩⟩⟩
theorem mX(x:aA):(er x).sz=12:=by
 have ac:(o9 x.expr).sz=4:=by
  cases x.expr with
  | none=>rfl
  | some x=>exact c7 x
 unfold er dg;simp only[D.sz,D.Af,ac]
def Ms(g:Nat)(cv sv:Value):Nat->Prop:=λb=>b=g\/cv.ownBlock=some b\/sv.ownBlock=some b
structure Mv(g:Nat)(cv sv:Value)(w:World)(a f:Value)(ab:World):Prop where
 fr:Fr (Ms g cv sv) w ab
 own:∀b,b<w.heap.size->Ms g a f b->Ms g cv sv b
section
variable {g:Nat} {cv sv a f i m:Value} {w ab aW:World}
theorem Mv.refl(g:Nat)(cv sv:Value)(w:World):Mv g cv sv w cv sv w:=⟨NC,λ_ _ h=>h⟩
theorem Mv.trans(h:Mv g cv sv w a f ab)(k:Mv g a f ab i m aW):Mv g cv sv w i m aW:=by
 refine⟨⟨k.fr.os.trans h.fr.os,k.fr.tape.trans h.fr.tape,k.fr.output.trans h.fr.output,Nl h.fr.size k.fr.size,λb O hn=>?_⟩,λb O hm=>?_⟩
 .exact(k.fr.block b (M0 O h.fr.size) λhm=>hn (h.own b O hm)).trans (h.fr.block b O hn)
 .exact h.own b O (k.own b (M0 O h.fr.size) hm)
theorem Mv.hJ(h:Ext w ab):Mv g cv sv w cv sv ab:=⟨h.mono λ_ h=>h.elim,λ_ _ h=>h⟩
theorem Mv.KP(h:Fr (Ms g cv sv) w ab):Mv g cv sv w cv sv ab:=⟨h,λ_ _ h=>h⟩
theorem Mv.KQ(h:Mv g cv sv w a f ab):∀b,off (Ms g cv sv) w b->off (Ms g a f) ab b:=
 λb O=>⟨M0 O.1 h.fr.size,λhm=>O.2 (h.own b O.1 hm)⟩
theorem D.cZ(h:d.rep w (off (Ms g cv sv) w) cs)(O:Mv g cv sv w a f ab):d.rep ab (off (Ms g a f) ab) cs:=
 D.aM O.KQ _ _ (D.aO (λb ap=>O.fr.block b ap.1 ap.2) _ _ h)
theorem Sl.cZ{l:List D}(h:Sl w (off (Ms g cv sv) w) A n l)(O:Mv g cv sv w a f ab):Sl ab (off (Ms g a f) ab) A n l:=
 (h.ak (λb ap=>O.fr.block b ap.1 ap.2)).mono O.KQ
end
theorem sJ{w:World}{P:Nat->Prop}(t:Int):∀(code:List aA) (xs:List Value) (b:Nat),D.aQ w P (code.map er) xs->b<code.length->D.aQ w P ((gw code b t).map er) (xs.set (b*12+1) t)
 | [],xs,b,h,O=>by simp at O
 | x::code,xs,0,h,O=>by
  rw[M7] at h;obtain⟨j,d,rfl,hx,bb⟩:=hb.1 h;have hl:=(D.lL _ _ hx).trans (mX x);have e:gw (x::code) 0 t={x with target:=t}::code:=rfl;rw[e,M7,List.set_append_left _ _ ad];refine hb.2 ⟨_,_,rfl,?_,bb⟩;unfold er at hx ⊢;rw[bK,bj] at hx ⊢;obtain⟨y,rfl,hx⟩:=hx;rw[bj] at hx;obtain⟨cf,rfl,hx⟩:=hx
  exact⟨_,rfl,bj.2 ⟨_,rfl,hx⟩⟩
 | x::code,xs,b+1,h,O=>by
  rw[M7] at h;obtain⟨j,d,rfl,hx,bb⟩:=hb.1 h;have hl:=(D.lL _ _ hx).trans (mX x);have aq:=sJ t code d b bb (by simpa using O);have e:gw (x::code) (b+1) t=x::gw code b t:=rfl;rw[e,M7,List.set_append_right _ _ ad,hl,show (b+1)*12+1 - 12=b*12+1 by omega];exact hb.2 ⟨_,_,rfl,hx,aq⟩
theorem cA(code:List aA)(b:Nat)(t:Int):(gw code b t).length=code.length:=by unfold gw;rw[List.length_modify]
theorem zi{P:Program}(S:World){o:Oper}{a:Act}{K:Act->World->Prop}{Q:Exit->Act->World->Prop}{e:TypeId}{z:Value}{size bytes:Nat}(bF:cq P t e z size bytes)(s x:Operand)
  (bD:o.op=.call {callee:=.builtin .append,args:=#[s,x],argTypes:=#[t,t]})
  (base:Nat) (v:Value) (n:Nat) (xs:List Value) (cs:Array Value) (hs:a.eval s=v) (aB:S.ownsRow base e size v n xs)
  (hx:a.eval x=.slice (some ⟨S,0,none⟩) 1 1) (T:cs.size=size) (ac:∀u∈cs.toList,u.oneCell'=true)
  (r:(n+1)*bytes<=140737488355328) (y:n+1<=140737488355328) (C:base<=S.heap.size)
  (h:∀G ab,ab.ownsRow base e size G (n+1) (xs++cs.toList)->S.grownBy ab v.ownBlock->(G.ownBlock=v.ownBlock\/G.ownBlock=some (S.heap.size+1))->K (a.put o.dst G) ab):o.wp P a (S.alloc (.cells cs e)) K Q:=by
 refine kx _ bF s x bD base v n xs hs (aB.alloc _) _ 1 1 cs.toList hx (Src.block (heap_alloc_new S _) 1 ad ac) r y (by simp;omega) (λh=>nomatch h) λG ab az aV aU=>?_;exact h G ab az ⟨aV.os,aV.tape,aV.output,by have:=aV.size;simp at this;omega,λk aj bl=>(aV.block k (by simp;omega) bl).trans (Below.heap_alloc S _ k aj)⟩ (by simpa using aU)
theorem p2:cq prog 35 37 (.agg #[(0:Int),(0:Int),NF,()]) 4 56:=cq.mk' Tryz.underlying35 (by kernel_rfl) rfl ad
abbrev fresh(w ab:World):Nat->Prop:=λb=>w.heap.size<=b/\b<ab.heap.size
theorem E8{w aW:World}(h:d.rep aO (fresh w aO) cs)(O:Ext aO aW):d.rep aW (fresh w aW) cs:=
 D.aM (λ_ ap=>⟨ap.1,M0 ap.2 O.size⟩) _ _ (D.aO (λb ap=>O.block b ap.2 (λh=>h)) _ _ h)
theorem xc{S w ab:World}(h:d.rep ab (fresh w ab) cs)(O:S.heap.size<=w.heap.size):d.rep ab (fresh S ab) cs:=
 D.aM (λ_ ap=>⟨Nl O ap.1,ap.2⟩) _ _ h
def rP(e:dS):Value:=.agg #[.string e.name,.int .i64 e.kind,.int .i64 e.n]
def jq:Option dS->Value
 | some e=>.tuple #[rP e,.bool true]
 | none=>.tuple #[.agg #[.string ⟨#[]⟩,.int .i64 0,.int .i64 0],.bool false]
theorem kb(h:∀(j:Nat) (x:dS),l[j]?=some x->x.name≠s):dI l s=none:=by
 unfold dI;rw[List.find?_eq_none];exact A6
theorem uV(aj:l[k]?=some e)(he:e.name=s)(h:∀(j:Nat) (x:dS),j<k->l[j]?=some x->x.name≠s):dI l s=some e:=by
 induction l generalizing k with
 | nil=>simp at aj
 | cons a l aq=>
  cases k with
  | zero=>
   simp only[List.getElem?_cons_zero,Nw] at aj;subst aj;unfold dI
   rw[List.find?_cons_of_pos (by simpa using he)]
  | succ k=>
   simp only[List.getElem?_cons_succ] at aj;have bg:=h 0 a ad rfl;unfold dI;rw[List.find?_cons_of_neg (by simpa using bg)];exact aq aj λj x bi hx=>h (j+1) x ad (by simpa using hx)
theorem eh(A:NH)(n c:Nat)(l:List dS)(s:ByteArray)(w:World)(h:Sl w (av w) A n (l.map b2))(hn:n<=1000000) :
  Calls prog 48 #[.slice A n c,s] w λe ab=>e=.returned (jq (dI l s))/\Ext w ab:=by
 have H:=ae h;have bT:=ae (show l.length=n by rw[<-h.1,M5]);clear h;go_enter func48,ntmps48;go_wp2;generalize be:World.alloc _ _=W;have aF:=aX be;have aT:=aL be;clear be;have bk:=ae aF;have bH:=ae (H.on (Fr.ext aF));obtain⟨a0,ak,af⟩:=aT.two;have bL:=ae aT;clear aF aT
 go_loop [6] (λL=>∃k:Nat,k<=n/\L=.int .i64 k/\∀(j:Nat) (x:dS),j<k->l[j]?=some x->x.name≠s) (λL=>n - (intOf L).toNat)
 case atStart=>exact⟨0,ad,rfl,λj x h=>ad⟩
 case round=>
  obtain⟨k,aj,rfl,bl⟩:=hrel;have b7:=ae bl;clear bl;by_cases ap:k<n
  .obtain⟨b,o,x,cs,rfl,O,hx,ba,bu,Z⟩:=bH.g1 zD ap;obtain rfl:=iQ.1 ba;have c0:=Z 0 _ rfl;have c1:=Z 1 _ rfl;have c2:=Z 2 _ rfl;simp only[Nd] at c0;have aZ:b<W:=O;have aP:=ae hx;clear hx ba bu Z O;by_cases hs:x.name=s
   .have bZ:=ae (uV aP.o hs b7.o);subst hs;go_wp2;generalize hX:World.setCell _ _ _=X;have bG:an X w 128 #[.string x.name,.int .i64 x.kind,.int .i64 x.n]:=hX▸((bL.aK 0 _).aK 1 _).aK 2 _;have a7:Ext w X:=hX▸((bk.setCell (.inr (MU _)) _).setCell (.inr (MU _)) _).setCell (.inr (MU _)) _;obtain⟨e0,a6,ag⟩:=bG.two;clear a0 ak af;refine NB (v:=.tuple #[.agg #[.string x.name,.int .i64 x.kind,.int .i64 x.n],true]) (by simp[results,Tryz.results48,go_sem,e0]) rfl ?_;exact⟨by rw[bZ.o];rfl,a7⟩
   .have q:=uh hs;have S:=ae hs;clear hs;go_wp2
    go_round
    case rel=>exact⟨k+1,ad,by go_num,λj y bi bb=>by
     by_cases aw:j=k
     .subst aw;rw[aP.o] at bb;injection bb with bb;subst bb;exact S.o
     .exact b7.o j y ad bb⟩
    case measure=>exact aH
  .have bZ:=ae (kb (l:=l) (s:=s) λj x bi=>b7.o j x (by have:=(List.getElem?_eq_some_iff.1 bi).1;have:=bT.o;omega) bi);go_wp2;generalize hX:World.setCell _ _ _=X;have bG:an X w 128 #[NF,(0:Int),(0:Int)]:=hX▸((bL.aK 0 _).aK 1 _).aK 2 _;have a7:Ext w X:=hX▸((bk.setCell (.inr (MU _)) _).setCell (.inr (MU _)) _).setCell (.inr (MU _)) _;obtain⟨e0,a6,ag⟩:=bG.two;clear a0 ak af;refine NB (v:=.tuple #[.agg #[NF,(0:Int),(0:Int)],false]) (by simp[results,Tryz.results48,go_sem,e0]) rfl ?_;exact⟨by rw[bZ.o];rfl,a7⟩
structure ux(w:World)(g:Nat)(l:List dS):Prop where
 lt:g<w.heap.size
 ex:∃A n c,n<=1000000/\w.cell? ⟨g,3,none⟩=some (.slice A n c)/\Sl w (av w) A n (l.map b2)
theorem ux.on{w ab:World}{g:Nat}(h:ux w g l)(O:Ext w ab):ux ab g l:=by
 exact Ev
theorem ny(g:Nat)(l:List dS)(s:ByteArray)(v:dS)(J:dI l s=some v)(aj:v.kind=1\/v.kind=4)(st:Int)(w:World)(h:ux w g l) :
  Calls prog 114 #[.pointer (some ⟨g,0,none⟩),s,st] w λe ab=>e=.returned (rP v)/\Ext w ab:=by
 have H:=ae h;clear h;go_enter func114,ntmps114;go_upto_region 1 with(fail);generalize be:World.alloc _ _=W;have aF:=aX be;have aT:=aL be;obtain⟨aR,A,n,c,hn,c3,hs⟩:=H.on aF;obtain⟨bL,bk,bH⟩:=eU aT aF hs;clear be aF aT hs;go_wp2_with(fail);refine(eh A n c l s W bH.o hn).mono ?_;rintro e aO ⟨rfl,ar⟩;have bw:=ae (bk.trans ar);have G:=ae (bL.aj ar);rw[J];simp only[jq,rP];clear ar c3 aR;go_upto_region 2 with(fail);generalize hV:World.alloc _ _=V;have ai:=aX hV;have a8:=ae (bw.trans ai);have cb:=ae (G.aj ai);have hC:=aL hV;obtain⟨a0,ak,af⟩:=hC.two;obtain⟨bs,am,aK⟩:=cb.two;clear hV ai hC;have fin:∀X,X=((V.setCell ⟨w,0,none⟩ (.string v.name)).setCell ⟨w,1,none⟩ (.int .i64 v.kind)).setCell ⟨w,2,none⟩ (.int .i64 v.n)->an X w 128 #[.string v.name,.int .i64 v.kind,.int .i64 v.n]/\Ext w X:=by
  rintro X rfl;exact⟨((cb.aK 0 _).aK 1 _).aK 2 _,((a8.setCell (.inr (MU _)) _).setCell (.inr (MU _)) _).setCell (.inr (MU _)) _⟩
 have d:=ae fin;clear fin;obtain⟨bp,cz,bJ⟩:=v;simp only at *;rcases aj with rfl|rfl
 all_goals
  go_wp2;generalize hX:World.setCell _ _ _=X;obtain⟨b0,bf⟩:=d.o X hX.symm;obtain⟨e0,a6,ag⟩:=b0.two;clear a0 ak af bs am aK;refine NB (v:=.agg #[bp,.int .i64 _,bJ]) (by simp[results,Tryz.results114,go_sem,e0];rfl) rfl ?_;exact⟨rfl,bf⟩
def gp(l:List dS):VE->Prop
 | .num _=>True
 | .gU s=>∃v,dI l s=some v/\(v.kind=1\/v.kind=4)
 | .loc _=>False
 | .ij _=>False
 | .un op x=>(op=3\/op=4)/\gp l x
 | .bin op x y=>(5<=op/\op<=17)/\gp l x/\gp l y
theorem yE(x:VE):x.args.length<=2:=by cases x<;>simp[VE.args]
def pR(l:List dS)(x:VE):Prop:=∀(g:Nat) (st op n:Int) (s:ByteArray) (A:NH) (m c:Nat) (w:World),ux w g l->(bo x).rep w (av w) [.int .i64 op,.int .i64 n,.string s,.slice A m c]->
 Calls prog 113 #[.pointer (some ⟨g,0,none⟩),.agg #[.int .i64 op,.int .i64 n,.string s,.slice A m c],.int .i64 st] w λr ab=>
  ∃(o a6:Int) (aq:ByteArray) (I:NH) (bW aD:Nat),r=.returned (.agg #[.int .i64 o,.int .i64 a6,.string aq,.slice I bW aD])/\(bo (bL l x)).rep ab (fresh w ab) [.int .i64 o,.int .i64 a6,.string aq,.slice I bW aD]/\Ext w ab
abbrev Mi(B:Nat)(wr:World)(v:Value):Nat->Prop:=λb=>B<=b/\b<wr.heap.size/\v.ownBlock≠some b
structure Ap(w wr:World)(l:List dS)(x:VE)(A:NH)(m c k:Nat)(I:NH)(aD:Nat)(xs:List Value):Prop where
 ext:Ext w wr
 b4:an wr w.heap.size 37 #[.int .i64 x.a5,.int .i64 x.numOf,.string x.bw,.slice A m c]
 b6:an wr (w.heap.size+1) 37 #[.int .i64 0,.int .i64 0,.string ⟨#[]⟩,.slice none 0 0]
 b8:an wr (w.heap.size+2) 37 #[.int .i64 x.a5,.int .i64 x.numOf,.string ⟨#[]⟩,.slice I k aD]
 own:wr.ownsRow (w.heap.size+3) 37 4 (.slice I k aD) k xs
 aQ:D.aQ wr (Mi (w.heap.size+3) wr (.slice I k aD)) ((x.args.take k).map λy=>bo (bL l y)) xs
theorem Ap.next{w wr aW:World}{x y:VE}{m c:Nat}{I cu:NH}{aD c3:Nat}{xs:List Value}{b2:List Value}(h:Ap w wr l x A m c k I aD xs)(bb:x.args[k]?=some y)
  (he:Ext wr aO) (ba:(bo (bL l y)).rep aO (fresh wr aO) b2) (aB:aW.ownsRow (w.heap.size+3) 37 4 (.slice cu (k+1) c3) (k+1) (xs++b2)) (aR:aO.grownBy aW (Value.slice I k aD).ownBlock)
  (O:(Value.slice cu (k+1) c3).ownBlock=(Value.slice I k aD).ownBlock\/(Value.slice cu (k+1) c3).ownBlock=some (aO.heap.size+1)) (hX:aW.setCell ⟨w.heap.size+2,3,none⟩ (.slice cu (k+1) c3)=X) :
  Ap w X l x A m c (k+1) cu c3 (xs++b2):=by
 have ap:∀g,(Value.slice I k aD).ownBlock=some g->w.heap.size+3<=g/\g<wr.heap.size:=λg aR=>h.own.lt g aR;have d:=h.b8.lt;have e1:=he.size;have e2:=aR.size;have b9:=cP hX;have a:∀b,b<aO.heap.size->b≠w.heap.size+2->some b≠(Value.slice I k aD).ownBlock->X.heap[b]?=aO.heap[b]?:=λb ac az aV=>(b9.block b ad az).trans (aR.block b ac aV);have bl:∀b,b<w.heap.size+3->some b≠(Value.slice I k aD).ownBlock:=λb O he=>by have:=ap b he.symm;omega
 have ce:∀b,b<wr.heap.size->b≠w.heap.size+2->some b≠(Value.slice I k aD).ownBlock->X.heap[b]?=wr.heap[b]?:=λb ac az aV=>(a b ad az aV).trans (he.block b ac λh=>h);have cM:X=aW.heap.size:=by rw[<-hX];simp
 refine⟨?_,?_,?_,?_,?_,?_⟩
 .refine⟨?_,?_,?_,by have:=h.ext.size;omega,λb O _=>?_⟩
  .exact b9.os.trans (aR.os.trans (he.os.trans h.ext.os))
  .exact b9.tape.trans (aR.tape.trans (he.tape.trans h.ext.tape))
  .exact b9.output.trans (aR.output.trans (he.output.trans h.ext.output))
  .have:=h.ext.size;exact(ce b ad ad (bl b ad)).trans (h.ext.block b O λh=>h)
 .exact(ce _ ad ad (bl _ ad)).trans h.b4
 .exact(ce _ ad ad (bl _ ad)).trans h.b6
 .have cO:an aW (w.heap.size+2) 37 #[.int .i64 x.a5,.int .i64 x.numOf,NF,.slice I k aD]:=(h.b8.aj he).grown aR (bl _ ad);rw[<-hX];exact cO.aK 3 _
 .refine⟨aB.1,?_⟩;rcases aB.2 with az|⟨g,cap,cur,bK,j,a4,rest⟩
  .exact .inl az
  .exact .inr ⟨g,cap,cur,bK,j,(b9.block g (Array.getElem?_eq_some_iff.1 a4).1 ad).trans a4,rest⟩
 .rw[List.take_add_one,bb,Na];refine D.cS ?_ ?_
  .refine D.b0 (λb bh=>⟨bh.1,by have:=bh.2.1;omega,λhc=>?_⟩) _ _ (D.bZ (λb bh=>ce b bh.2.1 (ax bh.1) λhe=>bh.2.2 he.symm) _ _ h.aQ);rcases O with O|O
   .rw[O] at hc;exact bh.2.2 hc
   .rw[O] at hc;injection hc with hc;have:=bh.2.1;omega
  .simp only[Option.toList_some,M7,Nr];rw[D.bx];refine D.aM (λb bh=>⟨by have:=bh.1;omega,by have:=bh.2;omega,λhc=>?_⟩) _ _ (D.aO (λb bh=>a b bh.2 (ax bh.1) λhe=>by have:=(ap b he.symm).2;have:=bh.1;omega) _ _ ba);rcases O with O|O
   .rw[O] at hc;have:=(ap b hc).2;have:=bh.1;omega
   .rw[O] at hc;injection hc with hc;have:=bh.2;omega
theorem xI(l:List dS)(x:VE)(h:(∃op y,x=.un op y)\/∃op y z,x=.bin op y z):(bL l x).a5=x.a5/\(bL l x).numOf=x.numOf/\(bL l x).bw=⟨#[]⟩/\(bL l x).args=x.args.map (bL l):=by
 rcases h with⟨op,y,rfl⟩|⟨op,y,z,rfl⟩<;>exact⟨rfl,rfl,rfl,rfl⟩
theorem yM{w:World}{g:Nat}{ai:Value}{cs:Array Value}(hs:cs.size=4)(aT:an V g 37 cs)(aF:Ext w V)(aR:w.heap.size<=g)(hX:(((V.setCell ⟨g,0,none⟩ v0).setCell ⟨g,1,none⟩ v1).setCell ⟨g,2,none⟩ v2).setCell ⟨g,3,none⟩ ai=X):
  an X g 37 #[v0,v1,v2,ai]/\Ext w X/\Fr (λb=>b=g) V X:=by
 subst hX;refine⟨?_,(((aF.setCell (.inr aR) _).setCell (.inr aR) _).setCell (.inr aR) _).setCell (.inr aR) _,((((Fr.refl (λb=>b=g) V).setCell (.inl rfl) _).setCell (.inl rfl) _).setCell (.inl rfl) _).setCell (.inl rfl) _⟩;have:=(((aT.aK 0 v0).aK 1 v1).aK 2 v2).aK 3 ai
 match cs,hs with
 | ⟨[c0,c1,c2,c3]⟩,_=>exact this
namespace CR
theorem pW(h:p:=by
 have aA:m<=2:=by rw[<-hs.1,M5];exact yE x
 have bN:x.args.length=m:=by rw[<-hs.1,M5]
 obtain⟨bp,bT,bH,cC⟩:=jl bN bx hs aq;have ck:=ae (xI l x r);clear ba aq bx hs bN r;go_enter func113,ntmps113;go_upto_region 1 with(fail);generalize be:World.alloc _ _=W;have aF:=g0 be;have bX:=e5 be;have cy:=eT be;have cZ:W=w.heap.size+2:=by rw[<-be];simp
 clear be;obtain⟨a0,ak,af⟩:=bX.two;go_upto_region 7 with(fail);generalize hV:World.alloc _ _=V;have ai:=aX hV;have hC:an V (w.heap.size+2) 37 #[.int .i64 x.a5,.int .i64 x.numOf,NF,()]:=hV▸an.gF _ _ _ cZ.symm;have HA:=ae (show Ap w V l x A m c 0 none 0 [] from ⟨aF.trans ai,bX.aj ai,cy.aj ai,hC,⟨by simp,.inl ⟨rfl,rfl⟩⟩,by simp only[List.take_zero,Nr,D.aQ]⟩);clear hV ai hC bX cy aF cZ a0 ak af;go_wp2;go_loopw [9] (λL wr=>∃(k:Nat) (I:NH) (aD:Nat) (xs:List Value),k<=m/\L=.int .i64 k/\Ap w wr l x A m c k I aD xs) (λL _=>m - (intOf L).toNat)
 case atStart=>exact⟨0,none,0,[],ad,rfl,HA.o⟩
 case round=>
  obtain⟨k,I,aD,xs,aj,rfl,bF⟩:=hrel;clear HA;have HA:=ae bF;obtain⟨a0,ak,af⟩:=bF.b4.two;obtain⟨bs,am,aK⟩:=bF.b6.two;obtain⟨e0,a6,ag⟩:=bF.b8.two;by_cases ap:k<m
  .obtain⟨b,o,y,cs,rfl,O,bb,aa,bu,Z⟩:=(bH.on (Fr.ext bF.ext)).g1 c7 ap
   match cs,bu with
   | [ci,cr,cf,bv],_=>
   have c0:=Z 0 ci rfl;have c1:=Z 1 cr rfl;have c2:=Z 2 cf rfl;have c3:=Z 3 bv rfl;simp only[Nd] at c0;have aZ:b<wr:=O;obtain⟨B,bO,bc,e,c6,b3⟩:=aY.1 aa;simp only[List.cons.injEq,and_true] at e;obtain⟨rfl,rfl,rfl,rfl⟩:=e;obtain⟨bB,G⟩:=aJ bb aa;have bY:=ae (cC.o k y bb);have u:=ae (bT.on bF.ext);clear bb aa b3 Z O bF bs am aK;go_wp2;refine eJ (λ_=>False) [(0,3),(1,0),(2,3),(3,3),(4,0),(5,3),(6,3),(7,0),(8,3),(9,1),(10,1),(11,2),(12,3),(13,2)] ?_;refine pf ?_;refine ph ?_
   iterate 2 refine pf ?_
   refine ph ?_
   iterate 2 refine pf ?_
   refine ph ?_;refine pf ?_;refine aE rfl (λK hK=>?_);go_simp;refine(bY.o g st _ _ _ _ _ _ _ (u.on NC.drew) (D.on G.o (Fr.ext NC.drew))).mono ?_;rintro e aO ⟨o1,n1,s1,cR,da,cU,rfl,cS,ar⟩;refine dB hK (ar) ?_;clear hK K;have aM:Ext wr aO:=Fr.aF ar;have F:(bo (bL l y)).rep aO (fresh wr aO) [o1,n1,s1,.slice cR da cU]:=cS;have U:=ah aM F;refine rS ?_;refine au rfl (λK hK=>?_);rw[if_pos (by rfl)];have cO:w+3<=aO.heap.size:=by have:=HA.b8.lt;have:=aM.size;omega
   refine zi _ p2 (.tmp 40) (.tmp 49) (by rfl) (w.heap.size+3) (.slice I k aD) k xs _ (by rfl) (bV HA.own (Fr.ext aM)) (by rfl) (by rfl) (by simp[Value.oneCell']) ad ad cO ?_;intro v2 aW S ao E;obtain⟨cu,bi,rfl,br,_⟩:=bG S;have i:an aW (w.heap.size+2) 37 _:=(HA.b8.aj aM).grown ao (λhe=>by have:=HA.own.lt _ he.symm;omega);have b7:=ay S ao E;clear S ao E cS F ar a0 ak af e0 a6 ag c0 c1 c2 c3 aZ;obtain⟨e0,a6,ag⟩:=i.two;refine dY hK ?_;clear hK K;refine pf ?_;refine au rfl (λK hK=>?_);go_simp;refine dY hK ?_;clear hK K;refine aG ?_;clear e0 a6 ag;generalize hX:World.setCell aW _ _=X;have ca:=ae (HA.next bB.o U.1 U.2 b7.1 b7.2.1 b7.2.2 hX);clear hX i aM;go_wp2;go_roundw
   case rel=>exact⟨k+1,cu,bi,_,ad,by go_num,ca.o⟩
   case measure=>exact aH
  .obtain rfl:m=k:=ad;clear bF;go_wp2;generalize hX:World.setCell _ _ _=X;obtain⟨b0,bf,a2⟩:=yM rfl HA.b6 HA.ext (Nat.le_succ _) hX;obtain⟨bq,a1,a5⟩:=b0.two;clear a0 ak af bs am aK e0 a6 ag;refine NB (v:=.agg #[.int .i64 x.a5,.int .i64 x.numOf,NF,.slice I m aD]) (by simp[results,Tryz.results113,go_sem,bq]) rfl ?_;refine⟨_,_,_,_,_,_,rfl,?_,bf⟩;obtain⟨ac,az,aV,aU⟩:=ck.o;have aB:=HA.own;obtain⟨_,_,bK,hle,_⟩:=bG aB;injection bK with eh aw hv3;have bD:=HA.aQ;have ap:∀g,(Value.slice I m aD).ownBlock=some g->w.heap.size+3<=g/\g<wr.heap.size:=λg aR=>aB.lt g aR;have cm:X=wr.heap.size:=by rw[<-hX];simp
   rw[<-bp.o,List.take_length] at bD;refine aY.2 ⟨I,m,aD,by rw[ac,az,aV],ad,?_⟩;rw[aU,List.map_map];have f:X.ownsRow (w.heap.size+3) 37 4 (.slice I m aD) m xs:=by
    refine⟨aB.1,?_⟩;rcases aB.2 with az|⟨g,cap,cur,bK,j,a4,rest⟩
    .exact .inl az
    .exact .inr ⟨g,cap,cur,bK,j,(a2.block g (Array.getElem?_eq_some_iff.1 a4).1 ad).trans a4,rest⟩
   refine Sl.qQ f (D.b0 (λb bh=>⟨by have:=bh.1;omega,by have:=bh.2.1;omega⟩) _ _ (D.bZ (λb bh=>a2.block b bh.2.1 (ax bh.1)) _ _ bD)) (by rw[M5];exact bp.o) (λg _ ac az=>⟨ad,az⟩)
 ):p:=h
end CR
open CR in
theorem sf(l:List dS)(x:VE)(r:(∃op y,x=.un op y)\/∃op y z,x=.bin op y z)(cL:(x.a5 == 2)=false)(aq:∀(k:Nat) (y:VE),x.args[k]?=some y->pR l y):pR l x:=by
 intro g st op n s A m c w bx ba;exact pV
def VE.leaf:VE->Prop
 | .un _ _=>False
 | .bin _ _ _=>False
 | _=>True
namespace CS
theorem pW(h:p:=by
 have aA:m<=2:=by rw[<-hs.1,M5];exact yE x
 have bN:x.args.length=m:=by rw[<-hs.1,M5]
 obtain⟨bT,bH,cC⟩:=eU bx hs aq;clear ba aq bx hs;go_enter func113,ntmps113;go_upto_region 1 with(fail);generalize be:World.alloc _ _=W;have aF:=g0 be;have bX:=e5 be;have cy:=eT be;have cZ:W=w.heap.size+2:=by rw[<-be];simp
 clear be;obtain⟨bk,cn,bD⟩:=eU aF bX cy;obtain⟨a0,ak,af⟩:=bX.two;obtain⟨bs,am,aK⟩:=cy.two;clear aF bX cy
 cases x with
 | loc j=>exact hx.elim
 | ij j=>exact hx.elim
 | gU s=>
  obtain⟨v,J,aj⟩:=hx;have d:=ae (show bL l (.gU s)=if v.kind=1 then .ij v.n else .loc v.n by unfold bL;simp only[J]);simp only[VE.a5,VE.numOf,VE.bw] at *;go_wp2_with(fail);refine(ny g l s v J aj st W (bT.on bk.o)).mono ?_;rintro e aO ⟨rfl,ar⟩;have bw:=ae (bk.trans ar);have i:=ae (bD.aj ar);clear ar a0 ak af bs am aK J;obtain⟨bp,cz,bJ⟩:=v;simp only[rP] at *;go_upto_region 3 with(fail);generalize hV:World.alloc _ _=V;have ai:=aX hV;have a8:=ae (bw.trans ai);have u:=ae (i.aj ai);have hC:=aL hV;obtain⟨a0,ak,af⟩:=hC.two;obtain⟨bs,am,aK⟩:=u.two;clear hV ai hC;rcases aj with rfl|rfl
  .go_wp2;generalize hX:World.setCell _ _ _=X;obtain⟨b0,bf,_⟩:=yM rfl u.o a8.o (Nat.le_succ _) hX;obtain⟨e0,a6,ag⟩:=b0.two;clear a0 ak af bs am aK;refine NB (v:=.agg #[(19:Int),bJ,NF,()]) (by simp[results,Tryz.results113,go_sem,e0]) rfl ?_;refine⟨_,_,_,_,_,_,rfl,?_,bf⟩;rw[show bL l (.gU s)=.ij bJ by simpa using d.o];exact aY.2 ⟨none,0,0,rfl,MU _,Sl.bY _⟩
  .go_wp2;generalize hX:World.setCell _ _ _=X;obtain⟨b0,bf,_⟩:=yM rfl u.o a8.o (Nat.le_succ _) hX;obtain⟨e0,a6,ag⟩:=b0.two;clear a0 ak af bs am aK;refine NB (v:=.agg #[(18:Int),bJ,NF,()]) (by simp[results,Tryz.results113,go_sem,e0]) rfl ?_;refine⟨_,_,_,_,_,_,rfl,?_,bf⟩;rw[show bL l (.gU s)=.loc bJ by simpa using d.o]
   exact aY.2 ⟨none,0,0,rfl,MU _,Sl.bY _⟩
 | num n=>
  obtain rfl:0=m:=bN;simp only[VE.a5,VE.numOf,VE.bw] at *;go_upto_region 7 with(fail);generalize hV:World.alloc _ _=V;have ai:=aX hV;have a8:=ae (bk.trans ai);have u:=ae (bD.aj ai);have hC:an V (w.heap.size+2) 37 #[(1:Int),n,NF,()]:=hV▸an.gF _ _ _ cZ.symm;have f:=cn.aj ai;clear a0 ak af bs am aK;obtain⟨c0,ch,bz⟩:=f.two;obtain⟨a0,ak,af⟩:=hC.two;obtain⟨bs,am,aK⟩:=u.two;clear hV ai hC f;go_wp2;refine wp_loop_rounds 1 ?_;rw[rounds_succ];go_wp2;generalize hX:World.setCell _ _ _=X;obtain⟨b0,bf,_⟩:=yM rfl u.o a8.o (Nat.le_succ _) hX;obtain⟨e0,a6,ag⟩:=b0.two;clear a0 ak af bs am aK;refine NB (v:=.agg #[(1:Int),n,NF,()]) (by simp[results,Tryz.results113,go_sem,e0]) rfl ?_
  exact⟨_,_,_,_,_,_,rfl,aY.2 ⟨none,0,0,rfl,MU _,Sl.bY _⟩,bf⟩
 | un op y=>exact bY.elim
 | bin op y z=>exact bY.elim
 ):p:=h
end CS
open CS in
theorem si(l:List dS)(x:VE)(hx:gp l x)(bY:x.leaf)(aq:∀(k:Nat) (y:VE),x.args[k]?=some y->pR l y):pR l x:=by
 intro g st op n s A m c w bx ba;exact pV
theorem ly(l:List dS)(x:VE)(hx:gp l x)(aq:∀(k:Nat) (y:VE),x.args[k]?=some y->pR l y):pR l x:=by
 cases x with
 | un op y=>exact sf l _ (.inl ⟨_,_,rfl⟩) (by rcases hx.1 with h|h<;>(show (op == 2)=false;rw[h];rfl)) aq
 | bin op y z=>exact sf l _ (.inr ⟨_,_,_,rfl⟩) (by have:=hx.1.1;show (op == 2)=false;simp;omega) aq
 | num n=>exact si l _ hx trivial aq
 | gU n=>exact si l _ hx trivial aq
 | loc j=>exact hx.elim
 | ij j=>exact hx.elim
theorem gB(l:List dS):∀(x:VE),gp l x->pR l x
 | .num n,h=>ly l _ h λk y bb=>by simp[VE.args] at bb
 | .gU n,h=>ly l _ h λk y bb=>by simp[VE.args] at bb
 | .loc n,h=>h.elim
 | .ij n,h=>h.elim
 | .un op y,h=>ly l _ h λk z aI=>by
  match k,aI with
  | 0,aI=>simp[VE.args] at aI;subst aI;exact gB l y h.2
 | .bin op x y,h=>ly l _ h λk z aI=>by
  match k,aI with
  | 0,aI=>simp[VE.args] at aI;subst aI;exact gB l x h.2.1
  | 1,aI=>simp[VE.args] at aI;subst aI;exact gB l y h.2.2
structure zo(w:World)(g:Nat)(M:List bM):Prop where
 lt:g<w.heap.size
 ex:∃A n c,n<=1000000/\w.cell? ⟨g,1,none⟩=some (.slice A n c)/\Sl w (av w) A n (M.map eF)
theorem zo.on{w ab:World}{g:Nat}{M:List bM}(h:zo w g M)(O:Ext w ab):zo ab g M:=by
 exact Ev
def q2(M:List bM)(l:List dS)(r:eY):Prop:=∃v,dI l r.name=some v/\
 ((v.kind=5/\r.idx=none)\/(v.kind=2/\∃m,0<=v.n/\M[v.n.toNat]?=some m/\(0<m.size->∃e,r.idx=some e/\gp l e)/\(¬0<m.size->r.idx=none)))
theorem dK{w:World}{p:bO}:(dg p).rep w P cs↔∃A n c,cs=[.bool p.param,.int .i64 p.index,.slice A n c]/\n<=c/\Sl w P A n (p.at_.toList.map bo):=by
 unfold dg;rw[bK,fE];constructor
 .rintro⟨y,rfl,h⟩;rw[bj] at h;obtain⟨cf,rfl,h⟩:=h;rw[aN] at h;obtain⟨A,n,c,bv,rfl,hc,hs,aV⟩:=h;exact yv
 .rintro⟨A,n,c,rfl,hc,hs⟩;exact⟨_,rfl,bj.2 ⟨_,rfl,aN.2 ⟨A,n,c,[],rfl,hc,hs,aR.2 rfl⟩⟩⟩
theorem qu{w:World}{g:Nat}{c0 c1 c2:Value}(aT:an V g t #[c0,c1,c2])(aF:Ext w V)(aR:w.heap.size<=g)(hX:((V.setCell ⟨g,0,none⟩ v0).setCell ⟨g,1,none⟩ v1).setCell ⟨g,2,none⟩ v2=X):
  an X g t #[v0,v1,v2]/\Ext w X/\Fr (λb=>b=g) V X:=by
 subst hX;exact⟨((aT.aK 0 v0).aK 1 v1).aK 2 v2,((aF.setCell (.inr aR) _).setCell (.inr aR) _).setCell (.inr aR) _,(((Fr.refl (λb=>b=g) V).setCell (.inl rfl) _).setCell (.inl rfl) _).setCell (.inl rfl) _⟩
def I2(w:World)(p:bO)(e:Ending)(ab:World):Prop:=
 ∃(b:Bool) (i:Int) (A:NH) (n c:Nat),e=.returned (.agg #[.bool b,.int .i64 i,.slice A n c])/\(dg p).rep ab (fresh w ab) [.bool b,.int .i64 i,.slice A n c]/\Ext w ab
def wq:Prop:=∀(g:Nat) (l:List dS) (M:List bM) (r:eY),q2 M l r->∀(st:Int) (s:ByteArray) (A:NH) (n c:Nat) (w:World),ux w g l->zo w g M->(kW r).rep w (av w) [.string s,.slice A n c]->
  Calls prog 116 #[.pointer (some ⟨g,0,none⟩),.agg #[.string s,.slice A n c],.int .i64 st] w (I2 w (mG l r))
structure ie where
 proc:Int
 az:List Int
def fM(i:ie):D:=.st [.i i.proc,.sl (i.az.map .i)]
theorem kV{w:World}{i:ie}:(fM i).rep w P cs↔∃A c n,cs=[.int .i64 i.proc,.slice A n c]/\n<=c/\Sl w P A n (i.az.map .i):=by
 unfold fM;simp only[D.rep];rw[bj];constructor
 .rintro⟨f,rfl,h⟩;obtain⟨A,n,c,y,rfl,hc,hs,bb⟩:=aN.1 h;rw[aR] at bb;subst bb;exact⟨A,c,n,rfl,hc,hs⟩
 .rintro⟨A,c,n,rfl,hc,hs⟩;exact wx
theorem Sl.xf{w:World}{l:List ie}(h:Sl w P A n (l.map fM))(aj:k<n):
  ∃b o x cW bh cY,A=some ⟨b,o,none⟩/\P b/\l[k]?=some x/\w.cell? ⟨b,o+k*2,none⟩=some (.int .i64 x.proc)/\w.cell? ⟨b,o+k*2+1,none⟩=some (.slice cW bh cY)/\bh<=cY/\Sl w P cW bh (x.az.map .i):=by
 obtain⟨b,o,x,cs,bF,O,hx,ba,hl,hc⟩:=Sl.g1 (z:=2) h (λ_=>rfl) aj;obtain⟨cW,cY,bh,rfl,ac,az⟩:=kV.1 ba;exact⟨b,o,x,cW,bh,cY,bF,O,hx,hc 0 _ rfl,hc 1 _ rfl,ac,az⟩
namespace Dt
theorem wK(h:p:=by
 refine cN rfl (by rfl) ?_
 try simp only[PU]
 refine ha rfl (by rfl) ?_
 try simp only[PU]
 refine au rfl (λK hK=>?_);go_simp;refine dY hK ?_;clear hK K;refine pf ?_;refine aG ?_;go_wp2_with(fail);go_roundw
 case rel=>exact⟨k+1,ad,by go_num,bw.drew⟩
 case measure=>exact aH
 ):p:=h
end Dt
open Dt in
theorem qv(IA:NH)(n ic:Nat)(S:NH)(cB bQ:Nat)(cr:NH)(cI rc:Nat)(L:List ie)(x:ie)(cW:NH)(bh cY:Nat)(w:World)
  (bx:Sl w (av w) IA n (L.map fM)) (hx:Sl w (av w) cW bh (x.az.map .i)) (hn:n<=1000000) (aj:∀i∈L,i.az.length<=1000000) :
  Calls prog 70 #[.agg #[.slice IA n ic,.slice S cB bQ,.slice cr cI rc],.agg #[.int .i64 x.proc,.slice cW bh cY]] w λe ab=>∃r:Int,e=.returned r∧-1<=r/\r<n/\Ext w ab:=by
 obtain⟨bT,aP,cT⟩:=eU bx hx aj;obtain⟨eH,dq⟩:=x;simp only at aP ⊢;clear bx hx aj;go_enter func70,ntmps70;go_wp2_with(fail);generalize be:World.alloc _ _=W;have aF:=g0 be;have aT:=e5 be;have bG:=eT be;obtain⟨bk,bL,cb⟩:=eU aF aT bG;clear be aF aT bG;go_loopw [5] (λi wr=>∃k:Nat,k<=n/\i=.int .i64 k/\Ext W wr) (λi _=>n - (intOf i).toNat)
 case atStart=>exact⟨0,Nq _,rfl,NC⟩
 case round=>
  obtain⟨k,aj,rfl,he⟩:=hrel;have bw:=ae he;have b2:=bL.aj he;have bn:=cb.aj he;obtain⟨G,j⟩:=aJ b2 bn;obtain⟨a0,ak,af⟩:=b2.two;obtain⟨bs,am,aK⟩:=bn.two;clear he b2 bn;by_cases ap:k<n
  .obtain⟨b,o,y,c8,da,db,rfl,ao,bb,c0,c1,c5,cX⟩:=(bT.on (Fr.ext (bk.trans bw.o))).xf ap;obtain⟨g,l⟩:=y;simp only at c0 cX;have d:da<=140737488355328:=by have:=cT.o _ (M4 bb);have:=cX.1;simp at this;simp at *;omega
   have bE:(0:Int)<=(k:Int):=ad;have ce:(k:Int)<(n:Int):=ad;have de:=ae cX;have dn:=ae (aP.on (Fr.ext (bk.trans bw.o)));have f:=ae d;clear bb cX d c5;by_cases hp:g=eH
   .have cU:(g == eH)=true:=by simp[hp]
    clear hp;go_upto_region 4 with(fail);refine eJ (λ_=>False) [(0,3),(1,0),(2,3),(3,3),(4,3),(5,0),(6,3),(7,0),(8,3),(9,3),(10,3),(11,0),(12,3),(13,3),(14,3),(15,0),(16,3),(17,0),(18,2),(19,3)] ?_;refine pf ?_;refine ph ?_
    iterate 3 refine pf ?_
    refine ph ?_;refine pf ?_;refine ph ?_
    iterate 3 refine pf ?_
    refine ph ?_
    iterate 3 refine pf ?_
    refine ph ?_;refine pf ?_;refine ph ?_;refine au rfl (λK hK=>?_);go_simp;refine(kq c8 cW da db bh cY l dq wr.drew (de.on (Fr.ext NC.drew)) (dn.on (Fr.ext NC.drew)) f.o).mono ?_;rintro e aO ⟨rfl,ar⟩;have a8:=ae (bw.trans (Fr.aF (Fr.of ar)));clear ar a0 ak af bs am aK c0 c1;generalize decide (l=dq)=q;refine dY hK ?_;clear hK K;refine pf ?_;refine aG ?_;cases q
    .go_wp2_with(fail);go_roundw
     case rel=>exact⟨k+1,ad,by go_num,a8.o⟩
     case measure=>exact aH
    .go_wp2_with(fail);go_ret;exact⟨k,rfl,ad,ad,bk.trans a8.o⟩
   .have cU:(g == eH)=false:=by simp[hp]
    clear hp;go_upto_region 4 with(fail);refine eJ (λ_=>False) [(0,3),(1,0),(2,3),(3,3),(4,3),(5,0),(6,3),(7,0),(8,3),(9,3),(10,3),(11,0),(12,3),(13,3),(14,3),(15,0),(16,3),(17,0),(18,2),(19,3)] ?_;refine pf ?_;refine ph ?_
    iterate 3 refine pf ?_
    refine ph ?_;refine pf ?_;refine ph ?_
    iterate 2 refine pf ?_
    refine cN rfl (by rfl) ?_
    try simp only[PU]
    refine ha rfl (by rfl) ?_;exact wJ
  .obtain rfl:k=n:=ad;go_wp2_with(fail);go_ret;exact⟨-1,rfl,ad,ad,bk.trans bw.o⟩
end Go.Proofs.YtnigabjngpnbiabGreat
