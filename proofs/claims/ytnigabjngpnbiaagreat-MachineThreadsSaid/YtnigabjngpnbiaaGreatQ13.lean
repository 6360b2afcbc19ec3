/- Part 13 of the proof. No condition of its own. -/
import Derived.Test.YtnigabjngpnbiaaGreatQ04
import Derived.Test.YtnigabjngpnbiaaGreatQ08
import Derived.Test.YtnigabjngpnbiaaGreatQ12
namespace Go.Proofs.YtnigabjngpnbiaaGreat
open Go.RowKit Go.Proofs.Tryz
set_option maxRecDepth 1000000
set_option maxHeartbeats 25600000
set_option linter.unusedVariables false
variable{s:ByteArray}{d:D}{cs:List Value}{l:List dv}{k:Nat}{P:Nat->Prop}{A:Kj}{p:Prop}{t:TypeId}{v0 v1 v2:Value}{V X aL:World}{e:dv}
theorem jt{w:World}{l:List D}:D.aR w P (d::l) cs↔∃x y,cs=x++y/\d.rep w P x/\D.aR w P l y:=by simp only[D.aR]
theorem qa{w:World}{r:eR}:(kF r).rep w P cs↔∃A n c,cs=[.string r.name,.slice A n c]/\n<=c/\Sl w P A n (r.idx.toList.map bB):=by
 unfold kF;rw[bK,dj];constructor
 .rintro⟨y,rfl,h⟩;rw[aO] at h;obtain⟨A,n,c,bA,rfl,hc,hs,aD⟩:=h;exact qO
 .rintro⟨A,n,c,rfl,hc,hs⟩;exact yz
def bR(e:dv):D:=.st [.s e.name,.i e.kind,.i e.n]
theorem w6(e:dv):(bR e).sz=3:=rfl
theorem hL{w:World}:(bR e).rep w P cs↔cs=[.string e.name,.int .i64 e.kind,.int .i64 e.n]:=by
 unfold bR;rw[bK,dj];constructor
 .rintro⟨y,rfl,h⟩;rw[bm] at h;exact yj
 .rintro rfl;exact⟨_,rfl,bm.2 ⟨_,rfl,bm.2 ⟨_,rfl,aS.2 rfl⟩⟩⟩
theorem lE(x:ax):(dH x).sz=12:=by
 have ac:(m8 x.expr).sz=4:=by
  cases x.expr with
  | none=>rfl
  | some x=>exact c4 x
 unfold dH c8;simp only[D.sz,D.xL,ac]
def Ms(g:Nat)(cv sv:Value):Nat->Prop:=λb=>b=g\/cv.ownBlock=some b\/sv.ownBlock=some b
structure Mv(g:Nat)(cv sv:Value)(w:World)(a f:Value)(J:World):Prop where
 fr:Fr (Ms g cv sv) w J
 own:∀b,b<w.heap.size->Ms g a f b->Ms g cv sv b
section
variable {g:Nat} {cv sv a f i j:Value} {w J aV:World}
theorem Mv.refl(g:Nat)(cv sv:Value)(w:World):Mv g cv sv w cv sv w:=⟨Kf,λ_ _ h=>h⟩
theorem Mv.trans(h:Mv g cv sv w a f J)(k:Mv g a f J i j aV):Mv g cv sv w i j aV:=by
 refine⟨⟨k.fr.os.trans h.fr.os,k.fr.tape.trans h.fr.tape,k.fr.output.trans h.fr.output,JZ h.fr.size k.fr.size,λb O hn=>?_⟩,λb O hm=>?_⟩
 .exact(k.fr.block b (JJ O h.fr.size) λhm=>hn (h.own b O hm)).trans (h.fr.block b O hn)
 .exact h.own b O (k.own b (JJ O h.fr.size) hm)
theorem Mv.gB(h:Ext w J):Mv g cv sv w cv sv J:=⟨h.mono λ_ h=>h.elim,λ_ _ h=>h⟩
theorem Mv.HH(h:Fr (Ms g cv sv) w J):Mv g cv sv w cv sv J:=⟨h,λ_ _ h=>h⟩
theorem Mv.HI(h:Mv g cv sv w a f J):∀b,off (Ms g cv sv) w b->off (Ms g a f) J b:=
 λb O=>⟨JJ O.1 h.fr.size,λhm=>O.2 (h.own b O.1 hm)⟩
theorem D.gW(h:d.rep w (off (Ms g cv sv) w) cs)(O:Mv g cv sv w a f J):d.rep J (off (Ms g a f) J) cs:=
 D.aA O.HI _ _ (D.aD (λb aq=>O.fr.block b aq.1 aq.2) _ _ h)
theorem Sl.gW{n:Nat}{l:List D}(h:Sl w (off (Ms g cv sv) w) A n l)(O:Mv g cv sv w a f J):Sl J (off (Ms g a f) J) A n l:=
 (h.al (λb aq=>O.fr.block b aq.1 aq.2)).mono O.HI
end
theorem qu{w:World}{P:Nat->Prop}(t:Int):∀(code:List ax) (xs:List Value) (b:Nat),D.aR w P (code.map dH) xs->b<code.length->D.aR w P ((fw code b t).map dH) (xs.set (b*12+1) (.int .i64 t))
 | [],xs,b,h,O=>by simp at O
 | x::code,xs,0,h,O=>by
  rw[JO] at h;obtain⟨d,c,rfl,hx,aa⟩:=jt.1 h;have hl:=(D.lU _ _ hx).trans (lE x);have e:fw (x::code) 0 t={x with target:=t}::code:=rfl;rw[e,JO,List.set_append_left _ _ ad];refine jt.2 ⟨_,_,rfl,?_,aa⟩;unfold dH at hx ⊢;rw[bK,bm] at hx ⊢;obtain⟨y,rfl,hx⟩:=hx;rw[bm] at hx;obtain⟨b3,rfl,hx⟩:=hx
  exact⟨_,rfl,bm.2 ⟨_,rfl,hx⟩⟩
 | x::code,xs,b+1,h,O=>by
  rw[JO] at h;obtain⟨d,c,rfl,hx,aa⟩:=jt.1 h;have hl:=(D.lU _ _ hx).trans (lE x);have ab:=qu t code c b aa (by simpa using O);have e:fw (x::code) (b+1) t=x::fw code b t:=rfl;rw[e,JO,List.set_append_right _ _ ad,hl,show (b+1)*12+1 - 12=b*12+1 by omega];exact jt.2 ⟨_,_,rfl,hx,ab⟩
theorem cm(code:List ax)(b:Nat)(t:Int):(fw code b t).length=code.length:=by unfold fw;rw[List.length_modify]
theorem wM{P:Program}(r:World){o:Oper}{a:Act}{K:Act->World->Prop}{Q:Exit->Act->World->Prop}{e:TypeId}{z:Value}{size bytes:Nat}(bu:cA P t e z size bytes)(s x:Operand)
  (bb:o.op=.call {callee:=.builtin .append,args:=#[s,x],argTypes:=#[t,t]})
  (base:Nat) (v:Value) (n:Nat) (xs:List Value) (cs:Array Value) (hs:a.eval s=v) (aE:r.ownsRow base e size v n xs)
  (hx:a.eval x=.slice (some ⟨r.heap.size,0,none⟩) 1 1) (aB:cs.size=size) (ac:∀u∈cs.toList,u.oneCell'=true)
  (y:(n+1)*bytes<=140737488355328) (G:n+1<=140737488355328) (C:base<=r.heap.size)
  (h:∀H J,J.ownsRow base e size H (n+1) (xs++cs.toList)->r.grownBy J v.ownBlock->(H.ownBlock=v.ownBlock\/H.ownBlock=some (r.heap.size+1))->K (a.put o.dst H) J):o.wp P a (r.alloc (.cells cs e)) K Q:=by
 refine ka _ bu s x bb base v n xs hs (aE.alloc _) _ 1 1 cs.toList hx (Src.block (heap_alloc_new r _) 1 ad ac) y G (by simp;omega) (λh=>nomatch h) λH J ap aD bt=>?_;exact h H J ap ⟨aD.os,aD.tape,aD.output,by have:=aD.size;simp at this;omega,λk aj aH=>(aD.block k (by simp;omega) aH).trans (Below.heap_alloc r _ k aj)⟩ (by simpa using bt)
theorem nT:cA prog 70 72 (.agg #[.int .i64 0,.int .i64 0,.string ⟨#[]⟩,.slice none 0 0]) 4 56:=cA.mk' Tryz.underlying70 (by kernel_rfl) rfl ad
abbrev fresh(w J:World):Nat->Prop:=λb=>w.heap.size<=b/\b<J.heap.size
theorem C0{w aV:World}(h:d.rep aL (fresh w aL) cs)(O:Ext aL aV):d.rep aV (fresh w aV) cs:=
 D.aA (λ_ aq=>⟨aq.1,JJ aq.2 O.size⟩) _ _ (D.aD (λb aq=>O.block b aq.2 (λh=>h)) _ _ h)
theorem ud{r w J:World}(h:d.rep J (fresh w J) cs)(O:r.heap.size<=w.heap.size):d.rep J (fresh r J) cs:=
 D.aA (λ_ aq=>⟨JZ O aq.1,aq.2⟩) _ _ h
def pH(e:dv):Value:=.agg #[.string e.name,.int .i64 e.kind,.int .i64 e.n]
def ia:Option dv->Value
 | some e=>.tuple #[pH e,.bool true]
 | none=>.tuple #[.agg #[.string ⟨#[]⟩,.int .i64 0,.int .i64 0],.bool false]
theorem ji(h:∀(j:Nat) (x:dv),l[j]?=some x->x.name≠s):dg l s=none:=by
 unfold dg;rw[List.find?_eq_none];exact yw
theorem se(aj:l[k]?=some e)(he:e.name=s)(h:∀(j:Nat) (x:dv),j<k->l[j]?=some x->x.name≠s):dg l s=some e:=by
 induction l generalizing k with
 | nil=>simp at aj
 | cons a l ab=>
  cases k with
  | zero=>
   simp only[List.getElem?_cons_zero,Ka] at aj;subst aj;unfold dg
   rw[List.find?_cons_of_pos (by simpa using he)]
  | succ k=>
   simp only[List.getElem?_cons_succ] at aj;have bE:=h 0 a ad rfl;unfold dg;rw[List.find?_cons_of_neg (by simpa using bE)];exact ab aj λj x be hx=>h (j+1) x ad (by simpa using hx)
theorem dC(A:Kj)(n c:Nat)(l:List dv)(s:ByteArray)(w:World)(h:Sl w (ao w) A n (l.map bR))(hn:n<=1000000) :
  Calls prog 58 #[.slice A n c,.string s] w λe J=>e=.returned (ia (dg l s))/\Ext w J:=by
 have H:=ae h;have bW:=ae (show l.length=n by rw[<-h.1,JM]);clear h;go_enter func58,ntmps58;go_wp2;generalize ba:World.alloc _ _=W;have ar:=aY ba;have aK:=aF ba;clear ba;have bd:=ae ar;have bF:=ae (H.on (Fr.ext ar));obtain⟨a0,al,af⟩:=aK.two;have bL:=ae aK;clear ar aK
 go_loop [6] (λaX=>∃k:Nat,k<=n/\aX=.int .i64 k/\∀(j:Nat) (x:dv),j<k->l[j]?=some x->x.name≠s) (λaX=>n - (intOf aX).toNat)
 case atStart=>exact⟨0,ad,rfl,λj x h=>ad⟩
 case round=>
  obtain⟨k,aj,rfl,aH⟩:=hrel;have bN:=ae aH;clear aH;by_cases aq:k<n
  .obtain⟨b,o,x,cs,rfl,O,hx,aZ,a8,Z⟩:=bF.iG w6 aq;obtain rfl:=hL.1 aZ;have c0:=Z 0 _ rfl;have c1:=Z 1 _ rfl;have c2:=Z 2 _ rfl;simp only[JS] at c0;have aN:b<W.heap.size:=O;have aJ:=ae hx;clear hx aZ a8 Z O;by_cases hs:x.name=s
   .have b6:=ae (se aJ.o hs bN.o);subst hs;go_wp2;generalize hX:World.setCell _ _ _=X;have bp:au X w.heap.size 133 #[.string x.name,.int .i64 x.kind,.int .i64 x.n]:=hX▸((bL.bH 0 _).bH 1 _).bH 2 _;have aO:Ext w X:=hX▸((bd.setCell (.inr (JI _)) _).setCell (.inr (JI _)) _).setCell (.inr (JI _)) _;obtain⟨e0,bl,bm⟩:=bp.two;clear a0 al af;refine Ke (v:=.tuple #[.agg #[.string x.name,.int .i64 x.kind,.int .i64 x.n],.bool true]) (by simp[results,Tryz.results58,go_sem,e0]) rfl ?_;exact⟨by rw[b6.o];rfl,aO⟩
   .have q:=rK hs;have i:=ae hs;clear hs;go_wp2
    go_round
    case rel=>exact⟨k+1,ad,by go_num,λj y be aa=>by
     by_cases z:j=k
     .subst z;rw[aJ.o] at aa;injection aa with aa;subst aa;exact i.o
     .exact bN.o j y ad aa⟩
    case measure=>exact aU
  .have b6:=ae (ji (l:=l) (s:=s) λj x be=>bN.o j x (by have:=(List.getElem?_eq_some_iff.1 be).1;have:=bW.o;omega) be);go_wp2;generalize hX:World.setCell _ _ _=X;have bp:au X w.heap.size 133 #[.string ⟨#[]⟩,.int .i64 0,.int .i64 0]:=hX▸((bL.bH 0 _).bH 1 _).bH 2 _;have aO:Ext w X:=hX▸((bd.setCell (.inr (JI _)) _).setCell (.inr (JI _)) _).setCell (.inr (JI _)) _;obtain⟨e0,bl,bm⟩:=bp.two;clear a0 al af;refine Ke (v:=.tuple #[.agg #[.string ⟨#[]⟩,.int .i64 0,.int .i64 0],.bool false]) (by simp[results,Tryz.results58,go_sem,e0]) rfl ?_;exact⟨by rw[b6.o];rfl,aO⟩
structure r0(w:World)(g:Nat)(l:List dv):Prop where
 lt:g<w.heap.size
 ex:∃A n c,n<=1000000/\w.cell? ⟨g,3,none⟩=some (.slice A n c)/\Sl w (ao w) A n (l.map bR)
theorem r0.on{w J:World}{g:Nat}(h:r0 w g l)(O:Ext w J):r0 J g l:=by
 exact Cn
theorem l2(g:Nat)(l:List dv)(s:ByteArray)(v:dv)(aA:dg l s=some v)(aj:v.kind=1\/v.kind=4)(st:Int)(w:World)(h:r0 w g l) :
  Calls prog 138 #[.pointer (some ⟨g,0,none⟩),.string s,.int .i64 st] w λe J=>e=.returned (pH v)/\Ext w J:=by
 have H:=ae h;clear h;go_enter func138,ntmps138;go_upto_region 1 with(fail);generalize ba:World.alloc _ _=W;have ar:=aY ba;have aK:=aF ba;obtain⟨aS,A,n,c,hn,c3,hs⟩:=H.on ar;obtain⟨bL,bd,bF⟩:=eS aK ar hs;clear ba ar aK hs;go_wp2_with(fail);refine(dC A n c l s W bF.o hn).mono ?_;rintro e aL ⟨rfl,L⟩;have bs:=ae (bd.trans L);have y:=ae (bL.aj L);rw[aA];simp only[ia,pH];clear L c3 aS;go_upto_region 2 with(fail);generalize hV:World.alloc _ _=V;have T:=aY hV;have aT:=ae (bs.trans T);have bt:=ae (y.aj T);have hC:=aF hV;obtain⟨a0,al,af⟩:=hC.two;obtain⟨b0,am,aw⟩:=bt.two;clear hV T hC;have fin:∀X,X=((V.setCell ⟨w.heap.size,0,none⟩ (.string v.name)).setCell ⟨w.heap.size,1,none⟩ (.int .i64 v.kind)).setCell ⟨w.heap.size,2,none⟩ (.int .i64 v.n)->au X w.heap.size 133 #[.string v.name,.int .i64 v.kind,.int .i64 v.n]/\Ext w X:=by
  rintro X rfl;exact⟨((bt.bH 0 _).bH 1 _).bH 2 _,((aT.setCell (.inr (JI _)) _).setCell (.inr (JI _)) _).setCell (.inr (JI _)) _⟩
 have d:=ae fin;clear fin;obtain⟨cg,cV,bR⟩:=v;simp only at *;rcases aj with rfl|rfl
 all_goals
  go_wp2;generalize hX:World.setCell _ _ _=X;obtain⟨bH,a7⟩:=d.o X hX.symm;obtain⟨e0,bl,bm⟩:=bH.two;clear a0 al af b0 am aw;refine Ke (v:=.agg #[.string cg,.int .i64 _,.int .i64 bR]) (by simp[results,Tryz.results138,go_sem,e0];rfl) rfl ?_;exact⟨rfl,a7⟩
def fq(l:List dv):VE->Prop
 | .num _=>True
 | .eP s=>∃v,dg l s=some v/\(v.kind=1\/v.kind=4)
 | .loc _=>False
 | .hP _=>False
 | .un op x=>(op=3\/op=4)/\fq l x
 | .bin op x y=>(5<=op/\op<=17)/\fq l x/\fq l y
theorem vV(x:VE):x.args.length<=2:=by cases x<;>simp[VE.args]
def nJ(l:List dv)(x:VE):Prop:=∀(g:Nat) (st op n:Int) (s:ByteArray) (A:Kj) (m c:Nat) (w:World),r0 w g l->(bB x).rep w (ao w) [.int .i64 op,.int .i64 n,.string s,.slice A m c]->
 Calls prog 137 #[.pointer (some ⟨g,0,none⟩),.agg #[.int .i64 op,.int .i64 n,.string s,.slice A m c],.int .i64 st] w λr J=>
  ∃(o aQ:Int) (aB:ByteArray) (a1:Kj) (aR aW:Nat),r=.returned (.agg #[.int .i64 o,.int .i64 aQ,.string aB,.slice a1 aR aW])/\(bB (bG l x)).rep J (fresh w J) [.int .i64 o,.int .i64 aQ,.string aB,.slice a1 aR aW]/\Ext w J
abbrev Jg(B:Nat)(wr:World)(v:Value):Nat->Prop:=λb=>B<=b/\b<wr.heap.size/\v.ownBlock≠some b
structure xN(w wr:World)(l:List dv)(x:VE)(A:Kj)(m c k:Nat)(a1:Kj)(aW:Nat)(xs:List Value):Prop where
 ext:Ext w wr
 b4:au wr w.heap.size 72 #[.int .i64 x.bP,.int .i64 x.numOf,.string x.dt,.slice A m c]
 b6:au wr (w.heap.size+1) 72 #[.int .i64 0,.int .i64 0,.string ⟨#[]⟩,.slice none 0 0]
 b8:au wr (w.heap.size+2) 72 #[.int .i64 x.bP,.int .i64 x.numOf,.string ⟨#[]⟩,.slice a1 k aW]
 own:wr.ownsRow (w.heap.size+3) 72 4 (.slice a1 k aW) k xs
 aR:D.aR wr (Jg (w.heap.size+3) wr (.slice a1 k aW)) ((x.args.take k).map λy=>bB (bG l y)) xs
theorem xN.next{w wr aV:World}{x y:VE}{m c:Nat}{a1 bU:Kj}{aW c3:Nat}{xs:List Value}{co:List Value}(h:xN w wr l x A m c k a1 aW xs)(aa:x.args[k]?=some y)
  (he:Ext wr aL) (aZ:(bB (bG l y)).rep aL (fresh wr aL) co) (aE:aV.ownsRow (w.heap.size+3) 72 4 (.slice bU (k+1) c3) (k+1) (xs++co)) (aS:aL.grownBy aV (Value.slice a1 k aW).ownBlock)
  (O:(Value.slice bU (k+1) c3).ownBlock=(Value.slice a1 k aW).ownBlock\/(Value.slice bU (k+1) c3).ownBlock=some (aL.heap.size+1)) (hX:aV.setCell ⟨w.heap.size+2,3,none⟩ (.slice bU (k+1) c3)=X) :
  xN w X l x A m c (k+1) bU c3 (xs++co):=by
 have aq:∀g,(Value.slice a1 k aW).ownBlock=some g->w.heap.size+3<=g/\g<wr.heap.size:=λg aS=>h.own.lt g aS;have d:=h.b8.lt;have e1:=he.size;have e2:=aS.size;have bM:=da hX;have a:∀b,b<aL.heap.size->b≠w.heap.size+2->some b≠(Value.slice a1 k aW).ownBlock->X.heap[b]?=aL.heap[b]?:=λb ac ap aD=>(bM.block b ad ap).trans (aS.block b ac aD);have aH:∀b,b<w.heap.size+3->some b≠(Value.slice a1 k aW).ownBlock:=λb O he=>by have:=aq b he.symm;omega
 have bI:∀b,b<wr.heap.size->b≠w.heap.size+2->some b≠(Value.slice a1 k aW).ownBlock->X.heap[b]?=wr.heap[b]?:=λb ac ap aD=>(a b ad ap aD).trans (he.block b ac λh=>h);have bp:X.heap.size=aV.heap.size:=by rw[<-hX];simp
 refine⟨?_,?_,?_,?_,?_,?_⟩
 .refine⟨?_,?_,?_,by have:=h.ext.size;omega,λb O _=>?_⟩
  .exact bM.os.trans (aS.os.trans (he.os.trans h.ext.os))
  .exact bM.tape.trans (aS.tape.trans (he.tape.trans h.ext.tape))
  .exact bM.output.trans (aS.output.trans (he.output.trans h.ext.output))
  .have:=h.ext.size;exact(bI b ad ad (aH b ad)).trans (h.ext.block b O λh=>h)
 .exact(bI _ ad ad (aH _ ad)).trans h.b4
 .exact(bI _ ad ad (aH _ ad)).trans h.b6
 .have cU:au aV (w.heap.size+2) 72 #[.int .i64 x.bP,.int .i64 x.numOf,.string ⟨#[]⟩,.slice a1 k aW]:=(h.b8.aj he).grown aS (aH _ ad);rw[<-hX];exact cU.bH 3 _
 .refine⟨aE.1,?_⟩;rcases aE.2 with ap|⟨g,cap,cur,bD,j,f,rest⟩
  .exact .inl ap
  .exact .inr ⟨g,cap,cur,bD,j,(bM.block g (Array.getElem?_eq_some_iff.1 f).1 ad).trans f,rest⟩
 .rw[List.take_add_one,aa,JP];refine D.cw ?_ ?_
  .refine D.bZ (λb S=>⟨S.1,by have:=S.2.1;omega,λhc=>?_⟩) _ _ (D.bY (λb S=>bI b S.2.1 (aC S.1) λhe=>S.2.2 he.symm) _ _ h.aR);rcases O with O|O
   .rw[O] at hc;exact S.2.2 hc
   .rw[O] at hc;injection hc with hc;have:=S.2.1;omega
  .simp only[Option.toList_some,JO,J5];rw[D.bt];refine D.aA (λb S=>⟨by have:=S.1;omega,by have:=S.2;omega,λhc=>?_⟩) _ _ (D.aD (λb S=>a b S.2 (aC S.1) λhe=>by have:=(aq b he.symm).2;have:=S.1;omega) _ _ aZ);rcases O with O|O
   .rw[O] at hc;have:=(aq b hc).2;have:=S.1;omega
   .rw[O] at hc;injection hc with hc;have:=S.2;omega
theorem uT(l:List dv)(x:VE)(h:(∃op y,x=.un op y)\/∃op y z,x=.bin op y z):(bG l x).bP=x.bP/\(bG l x).numOf=x.numOf/\(bG l x).dt=⟨#[]⟩/\(bG l x).args=x.args.map (bG l):=by
 rcases h with⟨op,y,rfl⟩|⟨op,y,z,rfl⟩<;>exact⟨rfl,rfl,rfl,rfl⟩
theorem v8{w:World}{g:Nat}{ax:Value}{cs:Array Value}(hs:cs.size=4)(aK:au V g 72 cs)(ar:Ext w V)(aS:w.heap.size<=g)(hX:(((V.setCell ⟨g,0,none⟩ v0).setCell ⟨g,1,none⟩ v1).setCell ⟨g,2,none⟩ v2).setCell ⟨g,3,none⟩ ax=X):
  au X g 72 #[v0,v1,v2,ax]/\Ext w X/\Fr (λb=>b=g) V X:=by
 subst hX;refine⟨?_,(((ar.setCell (.inr aS) _).setCell (.inr aS) _).setCell (.inr aS) _).setCell (.inr aS) _,((((Fr.refl (λb=>b=g) V).setCell (.inl rfl) _).setCell (.inl rfl) _).setCell (.inl rfl) _).setCell (.inl rfl) _⟩;have:=(((aK.bH 0 v0).bH 1 v1).bH 2 v2).bH 3 ax
 match cs,hs with
 | ⟨[c0,c1,c2,c3]⟩,_=>exact this
namespace AH
theorem nP(h:p:=by
 have ah:m<=2:=by rw[<-hs.1,JM];exact vV x
 have bS:x.args.length=m:=by rw[<-hs.1,JM]
 obtain⟨bC,bW,bF,b2⟩:=jF bS bP hs ab;have cw:=ae (uT l x r);clear aZ ab bP hs bS r;go_enter func137,ntmps137;go_upto_region 1 with(fail);generalize ba:World.alloc _ _=W;have ar:=jN ba;have bJ:=fQ ba;have cC:=fR ba;have cP:W.heap.size=w.heap.size+2:=by rw[<-ba];simp
 clear ba;obtain⟨a0,al,af⟩:=bJ.two;go_upto_region 7 with(fail);generalize hV:World.alloc _ _=V;have T:=aY hV;have hC:au V (w.heap.size+2) 72 #[.int .i64 x.bP,.int .i64 x.numOf,.string ⟨#[]⟩,.slice none 0 0]:=hV▸au.k5 _ _ _ cP.symm;have HA:=ae (show xN w V l x A m c 0 none 0 [] from ⟨ar.trans T,bJ.aj T,cC.aj T,hC,⟨by simp,.inl ⟨rfl,rfl⟩⟩,by simp only[List.take_zero,J5,D.aR]⟩);clear hV T hC bJ cC ar cP a0 al af;go_wp2;go_loopw [9] (λaX wr=>∃(k:Nat) (a1:Kj) (aW:Nat) (xs:List Value),k<=m/\aX=.int .i64 k/\xN w wr l x A m c k a1 aW xs) (λaX _=>m - (intOf aX).toNat)
 case atStart=>exact⟨0,none,0,[],ad,rfl,HA.o⟩
 case round=>
  obtain⟨k,a1,aW,xs,aj,rfl,bu⟩:=hrel;clear HA;have HA:=ae bu;obtain⟨a0,al,af⟩:=bu.b4.two;obtain⟨b0,am,aw⟩:=bu.b6.two;obtain⟨e0,bl,bm⟩:=bu.b8.two;by_cases aq:k<m
  .obtain⟨b,o,y,cs,rfl,O,aa,P,a8,Z⟩:=(bF.on (Fr.ext bu.ext)).iG c4 aq
   match cs,a8 with
   | [cD,b5,b3,bA],_=>
   have c0:=Z 0 cD rfl;have c1:=Z 1 b5 rfl;have c2:=Z 2 b3 rfl;have c3:=Z 3 bA rfl;simp only[JS] at c0;have aN:b<wr.heap.size:=O;obtain⟨B,bE,bc,e,cp,G⟩:=bj.1 P;simp only[List.cons.injEq,and_true] at e;obtain⟨rfl,rfl,rfl,rfl⟩:=e;obtain⟨bw,M⟩:=aI aa P;have bK:=ae (b2.o k y aa);have I:=ae (bW.on bu.ext);clear aa P G Z O bu b0 am aw;go_wp2;refine fj (λ_=>False) [(0,3),(1,0),(2,3),(3,3),(4,0),(5,3),(6,3),(7,0),(8,3),(9,1),(10,1),(11,2),(12,3),(13,2)] ?_;refine pf ?_;refine ph ?_
   iterate 2 refine pf ?_
   refine ph ?_
   iterate 2 refine pf ?_
   refine ph ?_;refine pf ?_;refine aP rfl (λK hK=>?_);go_simp;refine(bK.o g st _ _ _ _ _ _ _ (I.on Kf.drew) (D.on M.o (Fr.ext Kf.drew))).mono ?_;rintro e aL ⟨o1,n1,s1,bz,cQ,ct,rfl,cB,L⟩;refine gu hK (L) ?_;clear hK K;have ag:Ext wr aL:=Fr.aL L;have H:(bB (bG l y)).rep aL (fresh wr aL) [.int .i64 o1,.int .i64 n1,.string s1,.slice bz cQ ct]:=cB;have be:=ak ag H;refine sG ?_;refine az rfl (λK hK=>?_);rw[if_pos (by rfl)];have cU:w.heap.size+3<=aL.heap.size:=by have:=HA.b8.lt;have:=ag.size;omega
   refine wM _ nT (.tmp 40) (.tmp 49) (by rfl) (w.heap.size+3) (.slice a1 k aW) k xs _ (by rfl) (bT HA.own (Fr.ext ag)) (by rfl) (by rfl) (by simp[Value.oneCell']) ad ad cU ?_;intro v2 aV ax bb E;obtain⟨bU,a5,rfl,bk,_⟩:=cj ax;have i:au aV (w.heap.size+2) 72 _:=(HA.b8.aj ag).grown bb (λhe=>by have:=HA.own.lt _ he.symm;omega);have bN:=av ax bb E;clear ax bb E cB H L a0 al af e0 bl bm c0 c1 c2 c3 aN;obtain⟨e0,bl,bm⟩:=i.two;refine eC hK ?_;clear hK K;refine pf ?_;refine az rfl (λK hK=>?_);go_simp;refine eC hK ?_;clear hK K;refine aG ?_;clear e0 bl bm;generalize hX:World.setCell aV _ _=X;have cf:=ae (HA.next bw.o be.1 be.2 bN.1 bN.2.1 bN.2.2 hX);clear hX i ag;go_wp2;go_roundw
   case rel=>exact⟨k+1,bU,a5,_,ad,by go_num,cf.o⟩
   case measure=>exact aU
  .obtain rfl:m=k:=ad;clear bu;go_wp2;generalize hX:World.setCell _ _ _=X;obtain⟨bH,a7,bZ⟩:=v8 rfl HA.b6 HA.ext (Nat.le_succ _) hX;obtain⟨bh,an,aM⟩:=bH.two;clear a0 al af b0 am aw e0 bl bm;refine Ke (v:=.agg #[.int .i64 x.bP,.int .i64 x.numOf,.string ⟨#[]⟩,.slice a1 m aW]) (by simp[results,Tryz.results137,go_sem,bh]) rfl ?_;refine⟨_,_,_,_,_,_,rfl,?_,a7⟩;obtain⟨ac,ap,aD,bt⟩:=cw.o;have aE:=HA.own;obtain⟨_,_,bD,hle,_⟩:=cj aE;injection bD with Q F hv3;have bY:=HA.aR;have aq:∀g,(Value.slice a1 m aW).ownBlock=some g->w.heap.size+3<=g/\g<wr.heap.size:=λg aS=>aE.lt g aS;have bL:X.heap.size=wr.heap.size:=by rw[<-hX];simp
   rw[<-bC.o,List.take_length] at bY;refine bj.2 ⟨a1,m,aW,by rw[ac,ap,aD],ad,?_⟩;rw[bt,List.map_map];have u:X.ownsRow (w.heap.size+3) 72 4 (.slice a1 m aW) m xs:=by
    refine⟨aE.1,?_⟩;rcases aE.2 with ap|⟨g,cap,cur,bD,j,f,rest⟩
    .exact .inl ap
    .exact .inr ⟨g,cap,cur,bD,j,(bZ.block g (Array.getElem?_eq_some_iff.1 f).1 ad).trans f,rest⟩
   refine Sl.oJ u (D.bZ (λb S=>⟨by have:=S.1;omega,by have:=S.2.1;omega⟩) _ _ (D.bY (λb S=>bZ.block b S.2.1 (aC S.1)) _ _ bY)) (by rw[JM];exact bC.o) (λg _ ac ap=>⟨ad,ap⟩)
 ):p:=h
end AH
open AH in
theorem qd(l:List dv)(x:VE)(r:(∃op y,x=.un op y)\/∃op y z,x=.bin op y z)(cM:(x.bP == 2)=false)(ab:∀(k:Nat) (y:VE),x.args[k]?=some y->nJ l y):nJ l x:=by
 intro g st op n s A m c w bP aZ;exact nO
def VE.leaf:VE->Prop
 | .un _ _=>False
 | .bin _ _ _=>False
 | _=>True
namespace AI
theorem nP(h:p:=by
 have ah:m<=2:=by rw[<-hs.1,JM];exact vV x
 have bS:x.args.length=m:=by rw[<-hs.1,JM]
 obtain⟨bW,bF,b2⟩:=eS bP hs ab;clear aZ ab bP hs;go_enter func137,ntmps137;go_upto_region 1 with(fail);generalize ba:World.alloc _ _=W;have ar:=jN ba;have bJ:=fQ ba;have cC:=fR ba;have cP:W.heap.size=w.heap.size+2:=by rw[<-ba];simp
 clear ba;obtain⟨bd,br,bv⟩:=eS ar bJ cC;obtain⟨a0,al,af⟩:=bJ.two;obtain⟨b0,am,aw⟩:=cC.two;clear ar bJ cC
 cases x with
 | loc j=>exact hx.elim
 | hP j=>exact hx.elim
 | eP s=>
  obtain⟨v,aA,aj⟩:=hx;have d:=ae (show bG l (.eP s)=if v.kind=1 then .hP v.n else .loc v.n by unfold bG;simp only[aA]);simp only[VE.bP,VE.numOf,VE.dt] at *;go_wp2_with(fail);refine(l2 g l s v aA aj st W (bW.on bd.o)).mono ?_;rintro e aL ⟨rfl,L⟩;have bs:=ae (bd.trans L);have i:=ae (bv.aj L);clear L a0 al af b0 am aw aA;obtain⟨cg,cV,bR⟩:=v;simp only[pH] at *;go_upto_region 3 with(fail);generalize hV:World.alloc _ _=V;have T:=aY hV;have aT:=ae (bs.trans T);have u:=ae (i.aj T);have hC:=aF hV;obtain⟨a0,al,af⟩:=hC.two;obtain⟨b0,am,aw⟩:=u.two;clear hV T hC;rcases aj with rfl|rfl
  .go_wp2;generalize hX:World.setCell _ _ _=X;obtain⟨bH,a7,_⟩:=v8 rfl u.o aT.o (Nat.le_succ _) hX;obtain⟨e0,bl,bm⟩:=bH.two;clear a0 al af b0 am aw;refine Ke (v:=.agg #[.int .i64 19,.int .i64 bR,.string ⟨#[]⟩,.slice none 0 0]) (by simp[results,Tryz.results137,go_sem,e0]) rfl ?_;refine⟨_,_,_,_,_,_,rfl,?_,a7⟩;rw[show bG l (.eP s)=.hP bR by simpa using d.o];exact bj.2 ⟨none,0,0,rfl,JI _,Sl.c7 _⟩
  .go_wp2;generalize hX:World.setCell _ _ _=X;obtain⟨bH,a7,_⟩:=v8 rfl u.o aT.o (Nat.le_succ _) hX;obtain⟨e0,bl,bm⟩:=bH.two;clear a0 al af b0 am aw;refine Ke (v:=.agg #[.int .i64 18,.int .i64 bR,.string ⟨#[]⟩,.slice none 0 0]) (by simp[results,Tryz.results137,go_sem,e0]) rfl ?_;refine⟨_,_,_,_,_,_,rfl,?_,a7⟩;rw[show bG l (.eP s)=.loc bR by simpa using d.o]
   exact bj.2 ⟨none,0,0,rfl,JI _,Sl.c7 _⟩
 | num n=>
  obtain rfl:0=m:=bS;simp only[VE.bP,VE.numOf,VE.dt] at *;go_upto_region 7 with(fail);generalize hV:World.alloc _ _=V;have T:=aY hV;have aT:=ae (bd.trans T);have u:=ae (bv.aj T);have hC:au V (w.heap.size+2) 72 #[.int .i64 1,.int .i64 n,.string ⟨#[]⟩,.slice none 0 0]:=hV▸au.k5 _ _ _ cP.symm;have f:=br.aj T;clear a0 al af b0 am aw;obtain⟨c0,bT,bw⟩:=f.two;obtain⟨a0,al,af⟩:=hC.two;obtain⟨b0,am,aw⟩:=u.two;clear hV T hC f;go_wp2;refine wp_loop_rounds 1 ?_;rw[rounds_succ];go_wp2;generalize hX:World.setCell _ _ _=X;obtain⟨bH,a7,_⟩:=v8 rfl u.o aT.o (Nat.le_succ _) hX;obtain⟨e0,bl,bm⟩:=bH.two;clear a0 al af b0 am aw;refine Ke (v:=.agg #[.int .i64 1,.int .i64 n,.string ⟨#[]⟩,.slice none 0 0]) (by simp[results,Tryz.results137,go_sem,e0]) rfl ?_
  exact⟨_,_,_,_,_,_,rfl,bj.2 ⟨none,0,0,rfl,JI _,Sl.c7 _⟩,a7⟩
 | un op y=>exact bK.elim
 | bin op y z=>exact bK.elim
 ):p:=h
end AI
open AI in
theorem qe(l:List dv)(x:VE)(hx:fq l x)(bK:x.leaf)(ab:∀(k:Nat) (y:VE),x.args[k]?=some y->nJ l y):nJ l x:=by
 intro g st op n s A m c w bP aZ;exact nO
theorem km(l:List dv)(x:VE)(hx:fq l x)(ab:∀(k:Nat) (y:VE),x.args[k]?=some y->nJ l y):nJ l x:=by
 cases x with
 | un op y=>exact qd l _ (.inl ⟨_,_,rfl⟩) (by rcases hx.1 with h|h<;>(show (op == 2)=false;rw[h];rfl)) ab
 | bin op y z=>exact qd l _ (.inr ⟨_,_,_,rfl⟩) (by have:=hx.1.1;show (op == 2)=false;simp;omega) ab
 | num n=>exact qe l _ hx trivial ab
 | eP n=>exact qe l _ hx trivial ab
 | loc j=>exact hx.elim
 | hP j=>exact hx.elim
theorem fD(l:List dv):∀(x:VE),fq l x->nJ l x
 | .num n,h=>km l _ h λk y aa=>by simp[VE.args] at aa
 | .eP n,h=>km l _ h λk y aa=>by simp[VE.args] at aa
 | .loc n,h=>h.elim
 | .hP n,h=>h.elim
 | .un op y,h=>km l _ h λk z bi=>by
  match k,bi with
  | 0,bi=>simp[VE.args] at bi;subst bi;exact fD l y h.2
 | .bin op x y,h=>km l _ h λk z bi=>by
  match k,bi with
  | 0,bi=>simp[VE.args] at bi;subst bi;exact fD l x h.2.1
  | 1,bi=>simp[VE.args] at bi;subst bi;exact fD l y h.2.2
structure wT(w:World)(g:Nat)(M:List bI):Prop where
 lt:g<w.heap.size
 ex:∃A n c,n<=1000000/\w.cell? ⟨g,1,none⟩=some (.slice A n c)/\Sl w (ao w) A n (M.map eL)
theorem wT.on{w J:World}{g:Nat}{M:List bI}(h:wT w g M)(O:Ext w J):wT J g M:=by
 exact Cn
def oU(M:List bI)(l:List dv)(r:eR):Prop:=∃v,dg l r.name=some v/\
 ((v.kind=5/\r.idx=none)\/(v.kind=2/\∃m,0<=v.n/\M[v.n.toNat]?=some m/\(0<m.size->∃e,r.idx=some e/\fq l e)/\(¬0<m.size->r.idx=none)))
theorem dB{w:World}{p:bN}:(c8 p).rep w P cs↔∃A n c,cs=[.bool p.param,.int .i64 p.index,.slice A n c]/\n<=c/\Sl w P A n (p.at_.toList.map bB):=by
 unfold c8;rw[bK,eN];constructor
 .rintro⟨y,rfl,h⟩;rw[bm] at h;obtain⟨b3,rfl,h⟩:=h;rw[aO] at h;obtain⟨A,n,c,bA,rfl,hc,hs,aD⟩:=h;exact qO
 .rintro⟨A,n,c,rfl,hc,hs⟩;exact⟨_,rfl,bm.2 ⟨_,rfl,aO.2 ⟨A,n,c,[],rfl,hc,hs,aS.2 rfl⟩⟩⟩
theorem oj{w:World}{g:Nat}{c0 c1 c2:Value}(aK:au V g t #[c0,c1,c2])(ar:Ext w V)(aS:w.heap.size<=g)(hX:((V.setCell ⟨g,0,none⟩ v0).setCell ⟨g,1,none⟩ v1).setCell ⟨g,2,none⟩ v2=X):
  au X g t #[v0,v1,v2]/\Ext w X/\Fr (λb=>b=g) V X:=by
 subst hX;exact⟨((aK.bH 0 v0).bH 1 v1).bH 2 v2,((ar.setCell (.inr aS) _).setCell (.inr aS) _).setCell (.inr aS) _,(((Fr.refl (λb=>b=g) V).setCell (.inl rfl) _).setCell (.inl rfl) _).setCell (.inl rfl) _⟩
def Gh(w:World)(p:bN)(e:Ending)(J:World):Prop:=
 ∃(b:Bool) (i:Int) (A:Kj) (n c:Nat),e=.returned (.agg #[.bool b,.int .i64 i,.slice A n c])/\(c8 p).rep J (fresh w J) [.bool b,.int .i64 i,.slice A n c]/\Ext w J
def tk:Prop:=∀(g:Nat) (l:List dv) (M:List bI) (r:eR),oU M l r->∀(st:Int) (s:ByteArray) (A:Kj) (n c:Nat) (w:World),r0 w g l->wT w g M->(kF r).rep w (ao w) [.string s,.slice A n c]->
  Calls prog 140 #[.pointer (some ⟨g,0,none⟩),.agg #[.string s,.slice A n c],.int .i64 st] w (Gh w (la l r))
end Go.Proofs.YtnigabjngpnbiaaGreat
