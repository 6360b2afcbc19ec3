/- Part 10 of the proof. No condition of its own. -/
import Derived.Test.YtajlmkkidmjgoaaGreatDoorQ05
import Derived.Test.YtajlmkkidmjgoaaGreatDoorQ06
import Derived.Test.YtajlmkkidmjgoaaGreatDoorQ09
namespace Go.Proofs.YtajlmkkidmjgoaaGreatDoor
open Go.RowKit Go.Proofs.Tryz
set_option maxRecDepth 1000000
set_option maxHeartbeats 25600000
set_option linter.unusedVariables false
variable{s:ByteArray}{d:D}{cs:List Value}{l:List du}{k n:Nat}{P:Nat->Prop}{A:IP}{p:Prop}{t:TypeId}{v0 v1 v2:Value}{V X aO:World}{e:du}
theorem gy{w:World}{l:List D}:D.aO w P (d::l) cs↔∃x y,cs=x++y/\d.rep w P x/\D.aO w P l y:=by simp only[D.aO]
theorem iT{w:World}{r:eC}:(j9 r).rep w P cs↔∃A n c,cs=[.string r.name,.slice A n c]/\n<=c/\Sl w P A n (r.idx.toList.map a7):=by
 unfold j9;rw[bw,b9];constructor
 .rintro⟨y,rfl,h⟩;rw[aA] at h;obtain⟨A,n,c,aJ,rfl,hc,hs,aR⟩:=h;exact vL
 .rintro⟨A,n,c,rfl,hc,hs⟩;exact AD
def bP(e:du):D:=.st [.s e.name,.i e.kind,.i e.n]
theorem w2(e:du):(bP e).sz=3:=rfl
theorem hP{w:World}:(bP e).rep w P cs↔cs=[.string e.name,.int .i64 e.kind,.int .i64 e.n]:=by
 unfold bP;rw[bw,b9];constructor
 .rintro⟨y,rfl,h⟩;rw[a2] at h;exact x6
 .rintro rfl;exact⟨_,rfl,a2.2 ⟨_,rfl,a2.2 ⟨_,rfl,aM.2 rfl⟩⟩⟩
theorem l5(x:az):(dN x).sz=12:=by
 have ac:(nP x.expr).sz=4:=by
  cases x.expr with
  | none=>rfl
  | some x=>exact cY x
 unfold dN c9;simp only[D.sz,D.xC,ac]
def Ms(g:Nat)(cv sv:Value):Nat->Prop:=λb=>b=g\/cv.ownBlock=some b\/sv.ownBlock=some b
structure Mv(g:Nat)(cv sv:Value)(w:World)(a f:Value)(ab:World):Prop where
 fr:Fr (Ms g cv sv) w ab
 own:∀b,b<w.heap.size->Ms g a f b->Ms g cv sv b
section
variable {g:Nat} {cv sv a f i m:Value} {w ab aT:World}
theorem Mv.refl(g:Nat)(cv sv:Value)(w:World):Mv g cv sv w cv sv w:=⟨IK,λ_ _ h=>h⟩
theorem Mv.trans(h:Mv g cv sv w a f ab)(k:Mv g a f ab i m aT):Mv g cv sv w i m aT:=by
 refine⟨⟨k.fr.os.trans h.fr.os,k.fr.tape.trans h.fr.tape,k.fr.output.trans h.fr.output,Ir h.fr.size k.fr.size,λb O hn=>?_⟩,λb O hm=>?_⟩
 .exact(k.fr.block b (Hy O h.fr.size) λhm=>hn (h.own b O hm)).trans (h.fr.block b O hn)
 .exact h.own b O (k.own b (Hy O h.fr.size) hm)
theorem Mv.gL(h:Ext w ab):Mv g cv sv w cv sv ab:=⟨h.mono λ_ h=>h.elim,λ_ _ h=>h⟩
theorem Mv.F7(h:Fr (Ms g cv sv) w ab):Mv g cv sv w cv sv ab:=⟨h,λ_ _ h=>h⟩
theorem Mv.F8(h:Mv g cv sv w a f ab):∀b,off (Ms g cv sv) w b->off (Ms g a f) ab b:=
 λb O=>⟨Hy O.1 h.fr.size,λhm=>O.2 (h.own b O.1 hm)⟩
theorem D.cz(h:d.rep w (off (Ms g cv sv) w) cs)(O:Mv g cv sv w a f ab):d.rep ab (off (Ms g a f) ab) cs:=
 D.aH O.F8 _ _ (D.aT (λb al=>O.fr.block b al.1 al.2) _ _ h)
theorem Sl.cz{l:List D}(h:Sl w (off (Ms g cv sv) w) A n l)(O:Mv g cv sv w a f ab):Sl ab (off (Ms g a f) ab) A n l:=
 (h.al (λb al=>O.fr.block b al.1 al.2)).mono O.F8
end
theorem qC{w:World}{P:Nat->Prop}(t:Int):∀(code:List az) (xs:List Value) (b:Nat),D.aO w P (code.map dN) xs->b<code.length->D.aO w P ((fM code b t).map dN) (xs.set (b*12+1) (.int .i64 t))
 | [],xs,b,h,O=>by simp at O
 | x::code,xs,0,h,O=>by
  rw[Ie] at h;obtain⟨j,d,rfl,hx,a4⟩:=gy.1 h;have hl:=(D.kR _ _ hx).trans (l5 x);have e:fM (x::code) 0 t={x with target:=t}::code:=rfl;rw[e,Ie,List.set_append_left _ _ ad];refine gy.2 ⟨_,_,rfl,?_,a4⟩;unfold dN at hx ⊢;rw[bw,a2] at hx ⊢;obtain⟨y,rfl,hx⟩:=hx;rw[a2] at hx;obtain⟨bp,rfl,hx⟩:=hx
  exact⟨_,rfl,a2.2 ⟨_,rfl,hx⟩⟩
 | x::code,xs,b+1,h,O=>by
  rw[Ie] at h;obtain⟨j,d,rfl,hx,a4⟩:=gy.1 h;have hl:=(D.kR _ _ hx).trans (l5 x);have aa:=qC t code d b a4 (by simpa using O);have e:fM (x::code) (b+1) t=x::fM code b t:=rfl;rw[e,Ie,List.set_append_right _ _ ad,hl,show (b+1)*12+1 - 12=b*12+1 by omega];exact gy.2 ⟨_,_,rfl,hx,aa⟩
theorem cc(code:List az)(b:Nat)(t:Int):(fM code b t).length=code.length:=by unfold fM;rw[List.length_modify]
theorem wK{P:Program}(S:World){o:Oper}{a:Act}{K:Act->World->Prop}{Q:Exit->Act->World->Prop}{e:TypeId}{z:Value}{size bytes:Nat}(bj:b2 P t e z size bytes)(s x:Operand)
  (bu:o.op=.call {callee:=.builtin .append,args:=#[s,x],argTypes:=#[t,t]})
  (base:Nat) (v:Value) (n:Nat) (xs:List Value) (cs:Array Value) (hs:a.eval s=v) (I:S.ownsRow base e size v n xs)
  (hx:a.eval x=.slice (some ⟨S.heap.size,0,none⟩) 1 1) (T:cs.size=size) (ac:∀u∈cs.toList,u.oneCell'=true)
  (r:(n+1)*bytes<=140737488355328) (y:n+1<=140737488355328) (C:base<=S.heap.size)
  (h:∀H ab,ab.ownsRow base e size H (n+1) (xs++cs.toList)->S.grownBy ab v.ownBlock->(H.ownBlock=v.ownBlock\/H.ownBlock=some (S.heap.size+1))->K (a.put o.dst H) ab):o.wp P a (S.alloc (.cells cs e)) K Q:=by
 refine kr _ bj s x bu base v n xs hs (I.alloc _) _ 1 1 cs.toList hx (Src.block (heap_alloc_new S _) 1 ad ac) r y (by simp;omega) (λh=>nomatch h) λH ab J aR bv=>?_;exact h H ab J ⟨aR.os,aR.tape,aR.output,by have:=aR.size;simp at this;omega,λk ap aZ=>(aR.block k (by simp;omega) aZ).trans (Below.heap_alloc S _ k ap)⟩ (by simpa using bv)
theorem ow:b2 prog 126 128 (.agg #[.int .i64 0,.int .i64 0,.string ⟨#[]⟩,.slice none 0 0]) 4 56:=b2.mk' Tryz.underlying126 (by kernel_rfl) rfl ad
abbrev fresh(w ab:World):Nat->Prop:=λb=>w.heap.size<=b/\b<ab.heap.size
theorem Ba{w aT:World}(h:d.rep aO (fresh w aO) cs)(O:Ext aO aT):d.rep aT (fresh w aT) cs:=
 D.aH (λ_ al=>⟨al.1,Hy al.2 O.size⟩) _ _ (D.aT (λb al=>O.block b al.2 (λh=>h)) _ _ h)
theorem ue{S w ab:World}(h:d.rep ab (fresh w ab) cs)(O:S.heap.size<=w.heap.size):d.rep ab (fresh S ab) cs:=
 D.aH (λ_ al=>⟨Ir O al.1,al.2⟩) _ _ h
def pY(e:du):Value:=.agg #[.string e.name,.int .i64 e.kind,.int .i64 e.n]
def im:Option du->Value
 | some e=>.tuple #[pY e,.bool true]
 | none=>.tuple #[.agg #[.string ⟨#[]⟩,.int .i64 0,.int .i64 0],.bool false]
theorem ju(h:∀(j:Nat) (x:du),l[j]?=some x->x.name≠s):de l s=none:=by
 unfold de;rw[List.find?_eq_none];exact yj
theorem so(ap:l[k]?=some e)(he:e.name=s)(h:∀(j:Nat) (x:du),j<k->l[j]?=some x->x.name≠s):de l s=some e:=by
 induction l generalizing k with
 | nil=>simp at ap
 | cons a l aa=>
  cases k with
  | zero=>
   simp only[List.getElem?_cons_zero,IE] at ap;subst ap;unfold de
   rw[List.find?_cons_of_pos (by simpa using he)]
  | succ k=>
   simp only[List.getElem?_cons_succ] at ap;have I:=h 0 a ad rfl;unfold de;rw[List.find?_cons_of_neg (by simpa using I)];exact aa ap λj x a1 hx=>h (j+1) x ad (by simpa using hx)
theorem dH(A:IP)(n c:Nat)(l:List du)(s:ByteArray)(w:World)(h:Sl w (av w) A n (l.map bP))(hn:n<=1000000) :
  Calls prog 34 #[.slice A n c,.string s] w λe ab=>e=.returned (im (de l s))/\Ext w ab:=by
 have H:=ae h;have bL:=ae (show l.length=n by rw[<-h.1,Ib]);clear h;go_enter func34,ntmps34;go_wp2;generalize ba:World.alloc _ _=W;have aw:=bm ba;have aS:=aU ba;clear ba;have bf:=ae aw;have bs:=ae (H.on (Fr.ext aw));obtain⟨aI,aj,af⟩:=aS.two;have a7:=ae aS;clear aw aS
 go_loop [6] (λah=>∃k:Nat,k<=n/\ah=.int .i64 k/\∀(j:Nat) (x:du),j<k->l[j]?=some x->x.name≠s) (λah=>n - (intOf ah).toNat)
 case atStart=>exact⟨0,ad,rfl,λj x h=>ad⟩
 case round=>
  obtain⟨k,ap,rfl,aZ⟩:=hrel;have b2:=ae aZ;clear aZ;by_cases al:k<n
  .obtain⟨b,o,x,cs,rfl,O,hx,aY,bd,Z⟩:=bs.gH w2 al;obtain rfl:=hP.1 aY;have c0:=Z 0 _ rfl;have c1:=Z 1 _ rfl;have c2:=Z 2 _ rfl;simp only[Ij] at c0;have aX:b<W.heap.size:=O;have aV:=ae hx;clear hx aY bd Z O;by_cases hs:x.name=s
   .have bV:=ae (so aV.o hs b2.o);subst hs;go_wp2;generalize hX:World.setCell _ _ _=X;have bU:an X w.heap.size 113 #[.string x.name,.int .i64 x.kind,.int .i64 x.n]:=hX▸((a7.aI 0 _).aI 1 _).aI 2 _;have aJ:Ext w X:=hX▸((bf.setCell (.inr (Hx _)) _).setCell (.inr (Hx _)) _).setCell (.inr (Hx _)) _;obtain⟨e0,bn,a0⟩:=bU.two;clear aI aj af;refine IJ (v:=.tuple #[.agg #[.string x.name,.int .i64 x.kind,.int .i64 x.n],.bool true]) (by simp[results,Tryz.results34,go_sem,e0]) rfl ?_;exact⟨by rw[bV.o];rfl,aJ⟩
   .have q:=rK hs;have u:=ae hs;clear hs;go_wp2
    go_round
    case rel=>exact⟨k+1,ad,by go_num,λj y a1 a4=>by
     by_cases m:j=k
     .subst m;rw[aV.o] at a4;injection a4 with a4;subst a4;exact u.o
     .exact b2.o j y ad a4⟩
    case measure=>exact aF
  .have bV:=ae (ju (l:=l) (s:=s) λj x a1=>b2.o j x (by have:=(List.getElem?_eq_some_iff.1 a1).1;have:=bL.o;omega) a1);go_wp2;generalize hX:World.setCell _ _ _=X;have bU:an X w.heap.size 113 #[.string ⟨#[]⟩,.int .i64 0,.int .i64 0]:=hX▸((a7.aI 0 _).aI 1 _).aI 2 _;have aJ:Ext w X:=hX▸((bf.setCell (.inr (Hx _)) _).setCell (.inr (Hx _)) _).setCell (.inr (Hx _)) _;obtain⟨e0,bn,a0⟩:=bU.two;clear aI aj af;refine IJ (v:=.tuple #[.agg #[.string ⟨#[]⟩,.int .i64 0,.int .i64 0],.bool false]) (by simp[results,Tryz.results34,go_sem,e0]) rfl ?_;exact⟨by rw[bV.o];rfl,aJ⟩
structure r2(w:World)(g:Nat)(l:List du):Prop where
 lt:g<w.heap.size
 ex:∃A n c,n<=1000000/\w.cell? ⟨g,3,none⟩=some (.slice A n c)/\Sl w (av w) A n (l.map bP)
theorem r2.on{w ab:World}{g:Nat}(h:r2 w g l)(O:Ext w ab):r2 ab g l:=by
 exact Ay
theorem mC(g:Nat)(l:List du)(s:ByteArray)(v:du)(aA:de l s=some v)(ap:v.kind=1\/v.kind=4)(st:Int)(w:World)(h:r2 w g l) :
  Calls prog 93 #[.pointer (some ⟨g,0,none⟩),.string s,.int .i64 st] w λe ab=>e=.returned (pY v)/\Ext w ab:=by
 have H:=ae h;clear h;go_enter func93,ntmps93;go_upto_region 1 with(fail);generalize ba:World.alloc _ _=W;have aw:=bm ba;have aS:=aU ba;obtain⟨aM,A,n,c,hn,c3,hs⟩:=H.on aw;obtain⟨a7,bf,bs⟩:=eD aS aw hs;clear ba aw aS hs;go_wp2_with(fail);refine(dH A n c l s W bs.o hn).mono ?_;rintro e aO ⟨rfl,ar⟩;have bh:=ae (bf.trans ar);have G:=ae (a7.aj ar);rw[aA];simp only[im,pY];clear ar c3 aM;go_upto_region 2 with(fail);generalize hV:World.alloc _ _=V;have T:=bm hV;have a3:=ae (bh.trans T);have b6:=ae (G.aj T);have hC:=aU hV;obtain⟨aI,aj,af⟩:=hC.two;obtain⟨be,am,aH⟩:=b6.two;clear hV T hC;have fin:∀X,X=((V.setCell ⟨w.heap.size,0,none⟩ (.string v.name)).setCell ⟨w.heap.size,1,none⟩ (.int .i64 v.kind)).setCell ⟨w.heap.size,2,none⟩ (.int .i64 v.n)->an X w.heap.size 113 #[.string v.name,.int .i64 v.kind,.int .i64 v.n]/\Ext w X:=by
  rintro X rfl;exact⟨((b6.aI 0 _).aI 1 _).aI 2 _,((a3.setCell (.inr (Hx _)) _).setCell (.inr (Hx _)) _).setCell (.inr (Hx _)) _⟩
 have d:=ae fin;clear fin;obtain⟨bq,da,fO⟩:=v;simp only at *;rcases ap with rfl|rfl
 all_goals
  go_wp2;generalize hX:World.setCell _ _ _=X;obtain⟨bO,aG⟩:=d.o X hX.symm;obtain⟨e0,bn,a0⟩:=bO.two;clear aI aj af be am aH;refine IJ (v:=.agg #[.string bq,.int .i64 _,.int .i64 fO]) (by simp[results,Tryz.results93,go_sem,e0];rfl) rfl ?_;exact⟨rfl,aG⟩
def fH(l:List du):VE->Prop
 | .num _=>True
 | .gI s=>∃v,de l s=some v/\(v.kind=1\/v.kind=4)
 | .loc _=>False
 | .iq _=>False
 | .un op x=>(op=3\/op=4)/\fH l x
 | .bin op x y=>(5<=op/\op<=17)/\fH l x/\fH l y
theorem vW(x:VE):x.args.length<=2:=by cases x<;>simp[VE.args]
def og(l:List du)(x:VE):Prop:=∀(g:Nat) (st op n:Int) (s:ByteArray) (A:IP) (m c:Nat) (w:World),r2 w g l->(a7 x).rep w (av w) [.int .i64 op,.int .i64 n,.string s,.slice A m c]->
 Calls prog 92 #[.pointer (some ⟨g,0,none⟩),.agg #[.int .i64 op,.int .i64 n,.string s,.slice A m c],.int .i64 st] w λr ab=>
  ∃(o a0:Int) (bP:ByteArray) (aE:IP) (b0 L:Nat),r=.returned (.agg #[.int .i64 o,.int .i64 a0,.string bP,.slice aE b0 L])/\(a7 (bx l x)).rep ab (fresh w ab) [.int .i64 o,.int .i64 a0,.string bP,.slice aE b0 L]/\Ext w ab
abbrev Hh(B:Nat)(wr:World)(v:Value):Nat->Prop:=λb=>B<=b/\b<wr.heap.size/\v.ownBlock≠some b
structure xR(w wr:World)(l:List du)(x:VE)(A:IP)(m c k:Nat)(aE:IP)(L:Nat)(xs:List Value):Prop where
 ext:Ext w wr
 b4:an wr w.heap.size 128 #[.int .i64 x.aZ,.int .i64 x.numOf,.string x.bg,.slice A m c]
 b6:an wr (w.heap.size+1) 128 #[.int .i64 0,.int .i64 0,.string ⟨#[]⟩,.slice none 0 0]
 b8:an wr (w.heap.size+2) 128 #[.int .i64 x.aZ,.int .i64 x.numOf,.string ⟨#[]⟩,.slice aE k L]
 own:wr.ownsRow (w.heap.size+3) 128 4 (.slice aE k L) k xs
 aO:D.aO wr (Hh (w.heap.size+3) wr (.slice aE k L)) ((x.args.take k).map λy=>a7 (bx l y)) xs
theorem xR.next{w wr aT:World}{x y:VE}{m c:Nat}{aE cl:IP}{L c3:Nat}{xs:List Value}{cA:List Value}(h:xR w wr l x A m c k aE L xs)(a4:x.args[k]?=some y)
  (he:Ext wr aO) (aY:(a7 (bx l y)).rep aO (fresh wr aO) cA) (I:aT.ownsRow (w.heap.size+3) 128 4 (.slice cl (k+1) c3) (k+1) (xs++cA)) (aM:aO.grownBy aT (Value.slice aE k L).ownBlock)
  (O:(Value.slice cl (k+1) c3).ownBlock=(Value.slice aE k L).ownBlock\/(Value.slice cl (k+1) c3).ownBlock=some (aO.heap.size+1)) (hX:aT.setCell ⟨w.heap.size+2,3,none⟩ (.slice cl (k+1) c3)=X) :
  xR w X l x A m c (k+1) cl c3 (xs++cA):=by
 have al:∀g,(Value.slice aE k L).ownBlock=some g->w.heap.size+3<=g/\g<wr.heap.size:=λg aM=>h.own.lt g aM;have d:=h.b8.lt;have e1:=he.size;have e2:=aM.size;have bT:=cT hX;have a:∀b,b<aO.heap.size->b≠w.heap.size+2->some b≠(Value.slice aE k L).ownBlock->X.heap[b]?=aO.heap[b]?:=λb ac J aR=>(bT.block b ad J).trans (aM.block b ac aR);have aZ:∀b,b<w.heap.size+3->some b≠(Value.slice aE k L).ownBlock:=λb O he=>by have:=al b he.symm;omega
 have b7:∀b,b<wr.heap.size->b≠w.heap.size+2->some b≠(Value.slice aE k L).ownBlock->X.heap[b]?=wr.heap[b]?:=λb ac J aR=>(a b ad J aR).trans (he.block b ac λh=>h);have b9:X.heap.size=aT.heap.size:=by rw[<-hX];simp
 refine⟨?_,?_,?_,?_,?_,?_⟩
 .refine⟨?_,?_,?_,by have:=h.ext.size;omega,λb O _=>?_⟩
  .exact bT.os.trans (aM.os.trans (he.os.trans h.ext.os))
  .exact bT.tape.trans (aM.tape.trans (he.tape.trans h.ext.tape))
  .exact bT.output.trans (aM.output.trans (he.output.trans h.ext.output))
  .have:=h.ext.size;exact(b7 b ad ad (aZ b ad)).trans (h.ext.block b O λh=>h)
 .exact(b7 _ ad ad (aZ _ ad)).trans h.b4
 .exact(b7 _ ad ad (aZ _ ad)).trans h.b6
 .have r:an aT (w.heap.size+2) 128 #[.int .i64 x.aZ,.int .i64 x.numOf,.string ⟨#[]⟩,.slice aE k L]:=(h.b8.aj he).grown aM (aZ _ ad);rw[<-hX];exact r.aI 3 _
 .refine⟨I.1,?_⟩;rcases I.2 with J|⟨g,cap,cur,bC,j,a2,rest⟩
  .exact .inl J
  .exact .inr ⟨g,cap,cur,bC,j,(bT.block g (Array.getElem?_eq_some_iff.1 a2).1 ad).trans a2,rest⟩
 .rw[List.take_add_one,a4,Ig];refine D.cu ?_ ?_
  .refine D.bL (λb U=>⟨U.1,by have:=U.2.1;omega,λhc=>?_⟩) _ _ (D.bV (λb U=>b7 b U.2.1 (aC U.1) λhe=>U.2.2 he.symm) _ _ h.aO);rcases O with O|O
   .rw[O] at hc;exact U.2.2 hc
   .rw[O] at hc;injection hc with hc;have:=U.2.1;omega
  .simp only[Option.toList_some,Ie,Iy];rw[D.bo];refine D.aH (λb U=>⟨by have:=U.1;omega,by have:=U.2;omega,λhc=>?_⟩) _ _ (D.aT (λb U=>a b U.2 (aC U.1) λhe=>by have:=(al b he.symm).2;have:=U.1;omega) _ _ aY);rcases O with O|O
   .rw[O] at hc;have:=(al b hc).2;have:=U.1;omega
   .rw[O] at hc;injection hc with hc;have:=U.2;omega
theorem uQ(l:List du)(x:VE)(h:(∃op y,x=.un op y)\/∃op y z,x=.bin op y z):(bx l x).aZ=x.aZ/\(bx l x).numOf=x.numOf/\(bx l x).bg=⟨#[]⟩/\(bx l x).args=x.args.map (bx l):=by
 rcases h with⟨op,y,rfl⟩|⟨op,y,z,rfl⟩<;>exact⟨rfl,rfl,rfl,rfl⟩
theorem v9{w:World}{g:Nat}{ao:Value}{cs:Array Value}(hs:cs.size=4)(aS:an V g 128 cs)(aw:Ext w V)(aM:w.heap.size<=g)(hX:(((V.setCell ⟨g,0,none⟩ v0).setCell ⟨g,1,none⟩ v1).setCell ⟨g,2,none⟩ v2).setCell ⟨g,3,none⟩ ao=X):
  an X g 128 #[v0,v1,v2,ao]/\Ext w X/\Fr (λb=>b=g) V X:=by
 subst hX;refine⟨?_,(((aw.setCell (.inr aM) _).setCell (.inr aM) _).setCell (.inr aM) _).setCell (.inr aM) _,((((Fr.refl (λb=>b=g) V).setCell (.inl rfl) _).setCell (.inl rfl) _).setCell (.inl rfl) _).setCell (.inl rfl) _⟩;have:=(((aS.aI 0 v0).aI 1 v1).aI 2 v2).aI 3 ao
 match cs,hs with
 | ⟨[c0,c1,c2,c3]⟩,_=>exact this
namespace zm
theorem oo(h:p:=by
 have az:m<=2:=by rw[<-hs.1,Ib];exact vW x
 have ck:x.args.length=m:=by rw[<-hs.1,Ib]
 obtain⟨bJ,bL,bs,c6⟩:=ih ck br hs aa;have b9:=ae (uQ l x F);clear aY aa br hs ck F;go_enter func92,ntmps92;go_upto_region 1 with(fail);generalize ba:World.alloc _ _=W;have aw:=hJ ba;have bH:=fA ba;have cn:=fB ba;have cE:W.heap.size=w.heap.size+2:=by rw[<-ba];simp
 clear ba;obtain⟨aI,aj,af⟩:=bH.two;go_upto_region 7 with(fail);generalize hV:World.alloc _ _=V;have T:=bm hV;have hC:an V (w.heap.size+2) 128 #[.int .i64 x.aZ,.int .i64 x.numOf,.string ⟨#[]⟩,.slice none 0 0]:=hV▸an.fu _ _ _ cE.symm;have HA:=ae (show xR w V l x A m c 0 none 0 [] from ⟨aw.trans T,bH.aj T,cn.aj T,hC,⟨by simp,.inl ⟨rfl,rfl⟩⟩,by simp only[List.take_zero,Iy,D.aO]⟩);clear hV T hC bH cn aw cE aI aj af;go_wp2;go_loopw [9] (λah wr=>∃(k:Nat) (aE:IP) (L:Nat) (xs:List Value),k<=m/\ah=.int .i64 k/\xR w wr l x A m c k aE L xs) (λah _=>m - (intOf ah).toNat)
 case atStart=>exact⟨0,none,0,[],ad,rfl,HA.o⟩
 case round=>
  obtain⟨k,aE,L,xs,ap,rfl,bj⟩:=hrel;clear HA;have HA:=ae bj;obtain⟨aI,aj,af⟩:=bj.b4.two;obtain⟨be,am,aH⟩:=bj.b6.two;obtain⟨e0,bn,a0⟩:=bj.b8.two;by_cases al:k<m
  .obtain⟨b,o,y,cs,rfl,O,a4,P,bd,Z⟩:=(bs.on (Fr.ext bj.ext)).gH cY al
   match cs,bd with
   | [b1,cj,bp,aJ],_=>
   have c0:=Z 0 b1 rfl;have c1:=Z 1 cj rfl;have c2:=Z 2 bp rfl;have c3:=Z 3 aJ rfl;simp only[Ij] at c0;have aX:b<wr.heap.size:=O;obtain⟨B,bN,bc,e,cx,cb⟩:=aW.1 P;simp only[List.cons.injEq,and_true] at e;obtain⟨rfl,rfl,rfl,rfl⟩:=e;obtain⟨bY,H⟩:=aN a4 P;have bP:=ae (c6.o k y a4);have M:=ae (bL.on bj.ext);clear a4 P cb Z O bj be am aH;go_wp2;refine eB (λ_=>False) [(0,3),(1,0),(2,3),(3,3),(4,0),(5,3),(6,3),(7,0),(8,3),(9,1),(10,1),(11,2),(12,3),(13,2)] ?_;refine pf ?_;refine ph ?_
   iterate 2 refine pf ?_
   refine ph ?_
   iterate 2 refine pf ?_
   refine ph ?_;refine pf ?_;refine aD rfl (λK hK=>?_);go_simp;refine(bP.o g st _ _ _ _ _ _ _ (M.on IK.drew) (D.on H.o (Fr.ext IK.drew))).mono ?_;rintro e aO ⟨o1,n1,s1,cF,c9,cm,rfl,cC,ar⟩;refine dA hK (ar) ?_;clear hK K;have ag:Ext wr aO:=Fr.aJ ar;have N:(a7 (bx l y)).rep aO (fresh wr aO) [.int .i64 o1,.int .i64 n1,.string s1,.slice cF c9 cm]:=cC;have aP:=ai ag N;refine p2 ?_;refine au rfl (λK hK=>?_);rw[if_pos (by rfl)];have r:w.heap.size+3<=aO.heap.size:=by have:=HA.b8.lt;have:=ag.size;omega
   refine wK _ ow (.tmp 40) (.tmp 49) (by rfl) (w.heap.size+3) (.slice aE k L) k xs _ (by rfl) (b5 HA.own (Fr.ext ag)) (by rfl) (by rfl) (by simp[Value.oneCell']) ad ad r ?_;intro v2 aT E bb G;obtain⟨cl,aV,rfl,bz,_⟩:=bI E;have f:an aT (w.heap.size+2) 128 _:=(HA.b8.aj ag).grown bb (λhe=>by have:=HA.own.lt _ he.symm;omega);have b2:=aL E bb G;clear E bb G cC N ar aI aj af e0 bn a0 c0 c1 c2 c3 aX;obtain⟨e0,bn,a0⟩:=f.two;refine dW hK ?_;clear hK K;refine pf ?_;refine au rfl (λK hK=>?_);go_simp;refine dW hK ?_;clear hK K;refine aB ?_;clear e0 bn a0;generalize hX:World.setCell aT _ _=X;have cP:=ae (HA.next bY.o aP.1 aP.2 b2.1 b2.2.1 b2.2.2 hX);clear hX f ag;go_wp2;go_roundw
   case rel=>exact⟨k+1,cl,aV,_,ad,by go_num,cP.o⟩
   case measure=>exact aF
  .obtain rfl:m=k:=ad;clear bj;go_wp2;generalize hX:World.setCell _ _ _=X;obtain⟨bO,aG,R⟩:=v9 rfl HA.b6 HA.ext (Nat.le_succ _) hX;obtain⟨bD,aK,a9⟩:=bO.two;clear aI aj af be am aH e0 bn a0;refine IJ (v:=.agg #[.int .i64 x.aZ,.int .i64 x.numOf,.string ⟨#[]⟩,.slice aE m L]) (by simp[results,Tryz.results92,go_sem,bD]) rfl ?_;refine⟨_,_,_,_,_,_,rfl,?_,aG⟩;obtain⟨ac,J,aR,bv⟩:=b9.o;have I:=HA.own;obtain⟨_,_,bC,hle,_⟩:=bI I;injection bC with d6 u hv3;have bX:=HA.aO;have al:∀g,(Value.slice aE m L).ownBlock=some g->w.heap.size+3<=g/\g<wr.heap.size:=λg aM=>I.lt g aM;have bf:X.heap.size=wr.heap.size:=by rw[<-hX];simp
   rw[<-bJ.o,List.take_length] at bX;refine aW.2 ⟨aE,m,L,by rw[ac,J,aR],ad,?_⟩;rw[bv,List.map_map];have i:X.ownsRow (w.heap.size+3) 128 4 (.slice aE m L) m xs:=by
    refine⟨I.1,?_⟩;rcases I.2 with J|⟨g,cap,cur,bC,j,a2,rest⟩
    .exact .inl J
    .exact .inr ⟨g,cap,cur,bC,j,(R.block g (Array.getElem?_eq_some_iff.1 a2).1 ad).trans a2,rest⟩
   refine Sl.sH i (D.bL (λb U=>⟨by have:=U.1;omega,by have:=U.2.1;omega⟩) _ _ (D.bV (λb U=>R.block b U.2.1 (aC U.1)) _ _ bX)) (by rw[Ib];exact bJ.o) (λg _ ac J=>⟨ad,J⟩)
 ):p:=h
end zm
open zm in
theorem qj(l:List du)(x:VE)(F:(∃op y,x=.un op y)\/∃op y z,x=.bin op y z)(dq:(x.aZ == 2)=false)(aa:∀(k:Nat) (y:VE),x.args[k]?=some y->og l y):og l x:=by
 intro g st op n s A m c w br aY;exact om
def VE.leaf:VE->Prop
 | .un _ _=>False
 | .bin _ _ _=>False
 | _=>True
namespace zn
theorem oo(h:p:=by
 have az:m<=2:=by rw[<-hs.1,Ib];exact vW x
 have ck:x.args.length=m:=by rw[<-hs.1,Ib]
 obtain⟨bL,bs,c6⟩:=eD br hs aa;clear aY aa br hs;go_enter func92,ntmps92;go_upto_region 1 with(fail);generalize ba:World.alloc _ _=W;have aw:=hJ ba;have bH:=fA ba;have cn:=fB ba;have cE:W.heap.size=w.heap.size+2:=by rw[<-ba];simp
 clear ba;obtain⟨bf,cG,bv⟩:=eD aw bH cn;obtain⟨aI,aj,af⟩:=bH.two;obtain⟨be,am,aH⟩:=cn.two;clear aw bH cn
 cases x with
 | loc j=>exact hx.elim
 | iq j=>exact hx.elim
 | gI s=>
  obtain⟨v,aA,ap⟩:=hx;have d:=ae (show bx l (.gI s)=if v.kind=1 then .iq v.n else .loc v.n by unfold bx;simp only[aA]);simp only[VE.aZ,VE.numOf,VE.bg] at *;go_wp2_with(fail);refine(mC g l s v aA ap st W (bL.on bf.o)).mono ?_;rintro e aO ⟨rfl,ar⟩;have bh:=ae (bf.trans ar);have i:=ae (bv.aj ar);clear ar aI aj af be am aH aA;obtain⟨bq,da,fO⟩:=v;simp only[pY] at *;go_upto_region 3 with(fail);generalize hV:World.alloc _ _=V;have T:=bm hV;have a3:=ae (bh.trans T);have u:=ae (i.aj T);have hC:=aU hV;obtain⟨aI,aj,af⟩:=hC.two;obtain⟨be,am,aH⟩:=u.two;clear hV T hC;rcases ap with rfl|rfl
  .go_wp2;generalize hX:World.setCell _ _ _=X;obtain⟨bO,aG,_⟩:=v9 rfl u.o a3.o (Nat.le_succ _) hX;obtain⟨e0,bn,a0⟩:=bO.two;clear aI aj af be am aH;refine IJ (v:=.agg #[.int .i64 19,.int .i64 fO,.string ⟨#[]⟩,.slice none 0 0]) (by simp[results,Tryz.results92,go_sem,e0]) rfl ?_;refine⟨_,_,_,_,_,_,rfl,?_,aG⟩;rw[show bx l (.gI s)=.iq fO by simpa using d.o];exact aW.2 ⟨none,0,0,rfl,Hx _,Sl.bH _⟩
  .go_wp2;generalize hX:World.setCell _ _ _=X;obtain⟨bO,aG,_⟩:=v9 rfl u.o a3.o (Nat.le_succ _) hX;obtain⟨e0,bn,a0⟩:=bO.two;clear aI aj af be am aH;refine IJ (v:=.agg #[.int .i64 18,.int .i64 fO,.string ⟨#[]⟩,.slice none 0 0]) (by simp[results,Tryz.results92,go_sem,e0]) rfl ?_;refine⟨_,_,_,_,_,_,rfl,?_,aG⟩;rw[show bx l (.gI s)=.loc fO by simpa using d.o]
   exact aW.2 ⟨none,0,0,rfl,Hx _,Sl.bH _⟩
 | num n=>
  obtain rfl:0=m:=ck;simp only[VE.aZ,VE.numOf,VE.bg] at *;go_upto_region 7 with(fail);generalize hV:World.alloc _ _=V;have T:=bm hV;have a3:=ae (bf.trans T);have u:=ae (bv.aj T);have hC:an V (w.heap.size+2) 128 #[.int .i64 1,.int .i64 n,.string ⟨#[]⟩,.slice none 0 0]:=hV▸an.fu _ _ _ cE.symm;have f:=cG.aj T;clear aI aj af be am aH;obtain⟨c0,cA,bN⟩:=f.two;obtain⟨aI,aj,af⟩:=hC.two;obtain⟨be,am,aH⟩:=u.two;clear hV T hC f;go_wp2;refine wp_loop_rounds 1 ?_;rw[rounds_succ];go_wp2;generalize hX:World.setCell _ _ _=X;obtain⟨bO,aG,_⟩:=v9 rfl u.o a3.o (Nat.le_succ _) hX;obtain⟨e0,bn,a0⟩:=bO.two;clear aI aj af be am aH;refine IJ (v:=.agg #[.int .i64 1,.int .i64 n,.string ⟨#[]⟩,.slice none 0 0]) (by simp[results,Tryz.results92,go_sem,e0]) rfl ?_
  exact⟨_,_,_,_,_,_,rfl,aW.2 ⟨none,0,0,rfl,Hx _,Sl.bH _⟩,aG⟩
 | un op y=>exact ct.elim
 | bin op y z=>exact ct.elim
 ):p:=h
end zn
open zn in
theorem qk(l:List du)(x:VE)(hx:fH l x)(ct:x.leaf)(aa:∀(k:Nat) (y:VE),x.args[k]?=some y->og l y):og l x:=by
 intro g st op n s A m c w br aY;exact om
theorem kE(l:List du)(x:VE)(hx:fH l x)(aa:∀(k:Nat) (y:VE),x.args[k]?=some y->og l y):og l x:=by
 cases x with
 | un op y=>exact qj l _ (.inl ⟨_,_,rfl⟩) (by rcases hx.1 with h|h<;>(show (op == 2)=false;rw[h];rfl)) aa
 | bin op y z=>exact qj l _ (.inr ⟨_,_,_,rfl⟩) (by have:=hx.1.1;show (op == 2)=false;simp;omega) aa
 | num n=>exact qk l _ hx trivial aa
 | gI n=>exact qk l _ hx trivial aa
 | loc j=>exact hx.elim
 | iq j=>exact hx.elim
theorem fS(l:List du):∀(x:VE),fH l x->og l x
 | .num n,h=>kE l _ h λk y a4=>by simp[VE.args] at a4
 | .gI n,h=>kE l _ h λk y a4=>by simp[VE.args] at a4
 | .loc n,h=>h.elim
 | .iq n,h=>h.elim
 | .un op y,h=>kE l _ h λk z bi=>by
  match k,bi with
  | 0,bi=>simp[VE.args] at bi;subst bi;exact fS l y h.2
 | .bin op x y,h=>kE l _ h λk z bi=>by
  match k,bi with
  | 0,bi=>simp[VE.args] at bi;subst bi;exact fS l x h.2.1
  | 1,bi=>simp[VE.args] at bi;subst bi;exact fS l y h.2.2
structure wP(w:World)(g:Nat)(M:List bJ):Prop where
 lt:g<w.heap.size
 ex:∃A n c,n<=1000000/\w.cell? ⟨g,1,none⟩=some (.slice A n c)/\Sl w (av w) A n (M.map er)
theorem wP.on{w ab:World}{g:Nat}{M:List bJ}(h:wP w g M)(O:Ext w ab):wP ab g M:=by
 exact Ay
def pz(M:List bJ)(l:List du)(r:eC):Prop:=∃v,de l r.name=some v/\
 ((v.kind=5/\r.idx=none)\/(v.kind=2/\∃m,0<=v.n/\M[v.n.toNat]?=some m/\(0<m.size->∃e,r.idx=some e/\fH l e)/\(¬0<m.size->r.idx=none)))
theorem eh{w:World}{p:bK}:(c9 p).rep w P cs↔∃A n c,cs=[.bool p.param,.int .i64 p.index,.slice A n c]/\n<=c/\Sl w P A n (p.at_.toList.map a7):=by
 unfold c9;rw[bw,eS];constructor
 .rintro⟨y,rfl,h⟩;rw[a2] at h;obtain⟨bp,rfl,h⟩:=h;rw[aA] at h;obtain⟨A,n,c,aJ,rfl,hc,hs,aR⟩:=h;exact vL
 .rintro⟨A,n,c,rfl,hc,hs⟩;exact⟨_,rfl,a2.2 ⟨_,rfl,aA.2 ⟨A,n,c,[],rfl,hc,hs,aM.2 rfl⟩⟩⟩
theorem oS{w:World}{g:Nat}{c0 c1 c2:Value}(aS:an V g t #[c0,c1,c2])(aw:Ext w V)(aM:w.heap.size<=g)(hX:((V.setCell ⟨g,0,none⟩ v0).setCell ⟨g,1,none⟩ v1).setCell ⟨g,2,none⟩ v2=X):
  an X g t #[v0,v1,v2]/\Ext w X/\Fr (λb=>b=g) V X:=by
 subst hX;exact⟨((aS.aI 0 v0).aI 1 v1).aI 2 v2,((aw.setCell (.inr aM) _).setCell (.inr aM) _).setCell (.inr aM) _,(((Fr.refl (λb=>b=g) V).setCell (.inl rfl) _).setCell (.inl rfl) _).setCell (.inl rfl) _⟩
def Ey(w:World)(p:bK)(e:Ending)(ab:World):Prop:=
 ∃(b:Bool) (i:Int) (A:IP) (n c:Nat),e=.returned (.agg #[.bool b,.int .i64 i,.slice A n c])/\(c9 p).rep ab (fresh w ab) [.bool b,.int .i64 i,.slice A n c]/\Ext w ab
def tv:Prop:=∀(g:Nat) (l:List du) (M:List bJ) (r:eC),pz M l r->∀(st:Int) (s:ByteArray) (A:IP) (n c:Nat) (w:World),r2 w g l->wP w g M->(j9 r).rep w (av w) [.string s,.slice A n c]->
  Calls prog 95 #[.pointer (some ⟨g,0,none⟩),.agg #[.string s,.slice A n c],.int .i64 st] w (Ey w (lK l r))
structure g7 where
 proc:Int
 aw:List Int
def e7(i:g7):D:=.st [.i i.proc,.sl (i.aw.map .i)]
theorem j8{w:World}{i:g7}:(e7 i).rep w P cs↔∃A c n,cs=[.int .i64 i.proc,.slice A n c]/\n<=c/\Sl w P A n (i.aw.map .i):=by
 unfold e7;simp only[D.rep];rw[a2];constructor
 .rintro⟨f,rfl,h⟩;obtain⟨A,n,c,y,rfl,hc,hs,a4⟩:=aA.1 h;rw[aM] at a4;subst a4;exact⟨A,c,n,rfl,hc,hs⟩
 .rintro⟨A,c,n,rfl,hc,hs⟩;exact AD
theorem Sl.um{w:World}{l:List g7}(h:Sl w P A n (l.map e7))(ap:k<n):
  ∃b o x cy cp cD,A=some ⟨b,o,none⟩/\P b/\l[k]?=some x/\w.cell? ⟨b,o+k*2,none⟩=some (.int .i64 x.proc)/\w.cell? ⟨b,o+k*2+1,none⟩=some (.slice cy cp cD)/\cp<=cD/\Sl w P cy cp (x.aw.map .i):=by
 obtain⟨b,o,x,cs,bj,O,hx,aY,hl,hc⟩:=Sl.gH (z:=2) h (λ_=>rfl) ap;obtain⟨cy,cD,cp,rfl,ac,J⟩:=j8.1 aY;exact⟨b,o,x,cy,cp,cD,bj,O,hx,hc 0 _ rfl,hc 1 _ rfl,ac,J⟩
namespace zU
theorem yX(h:p:=by
 refine au rfl (λK hK=>?_);go_simp;refine dW hK ?_;clear hK K;refine pf ?_;refine aB ?_;go_wp2_with(fail);go_roundw
 case rel=>exact⟨k+1,ad,by go_num,bh.drew⟩
 case measure=>exact aF
 ):p:=h
end zU
open zU in
theorem oT(IA:IP)(n ic:Nat)(S:IP)(aZ bR:Nat)(ce:IP)(bO rc:Nat)(L:List g7)(x:g7)(cy:IP)(cp cD:Nat)(w:World)
  (br:Sl w (av w) IA n (L.map e7)) (hx:Sl w (av w) cy cp (x.aw.map .i)) (hn:n<=1000000) (ap:∀i∈L,i.aw.length<=1000000) :
  Calls prog 37 #[.agg #[.slice IA n ic,.slice S aZ bR,.slice ce bO rc],.agg #[.int .i64 x.proc,.slice cy cp cD]] w λe ab=>∃r:Int,e=.returned (.int .i64 r)∧-1<=r/\r<n/\Ext w ab:=by
 obtain⟨bL,aV,cI⟩:=eD br hx ap;obtain⟨ex,c5⟩:=x;simp only at aV ⊢;clear br hx ap;go_enter func37,ntmps37;go_wp2_with(fail);generalize ba:World.alloc _ _=W;have aw:=hJ ba;have aS:=fA ba;have bU:=fB ba;obtain⟨bf,a7,b6⟩:=eD aw aS bU;clear ba aw aS bU;go_loopw [5] (λi wr=>∃k:Nat,k<=n/\i=.int .i64 k/\Ext W wr) (λi _=>n - (intOf i).toNat)
 case atStart=>exact⟨0,Ix _,rfl,IK⟩
 case round=>
  obtain⟨k,ap,rfl,he⟩:=hrel;have bh:=ae he;have bo:=a7.aj he;have bw:=b6.aj he;obtain⟨G,g⟩:=aN bo bw;obtain⟨aI,aj,af⟩:=bo.two;obtain⟨be,am,aH⟩:=bw.two;clear he bo bw;by_cases al:k<n
  .obtain⟨b,o,y,cv,cP,cR,rfl,ao,a4,c0,c1,bX,cu⟩:=(bL.on (Fr.ext (bf.trans bh.o))).um al;obtain⟨f,j⟩:=y;simp only at c0 cu;have aJ:cP<=140737488355328:=by have:=cI.o _ (Ia a4);have:=cu.1;simp at this;simp at *;omega
   have bK:(0:Int)<=(k:Int):=ad;have b7:(k:Int)<(n:Int):=ad;have cQ:=ae cu;have cV:=ae (aV.on (Fr.ext (bf.trans bh.o)));have d:=ae aJ;clear a4 cu aJ bX;by_cases hp:f=ex
   .have bH:(f == ex)=true:=by simp[hp]
    clear hp;go_upto_region 4 with(fail);refine eB (λ_=>False) [(0,3),(1,0),(2,3),(3,3),(4,3),(5,0),(6,3),(7,0),(8,3),(9,3),(10,3),(11,0),(12,3),(13,3),(14,3),(15,0),(16,3),(17,0),(18,2),(19,3)] ?_;refine pf ?_;refine ph ?_
    iterate 3 refine pf ?_
    refine ph ?_;refine pf ?_;refine ph ?_
    iterate 3 refine pf ?_
    refine ph ?_
    iterate 3 refine pf ?_
    refine ph ?_;refine pf ?_;refine ph ?_;refine au rfl (λK hK=>?_);go_simp;refine(sameInts_any cv cy cP cR cp cD j c5 wr.drew (cQ.on (Fr.ext IK.drew)) (cV.on (Fr.ext IK.drew)) d.o).mono ?_;rintro e aO ⟨rfl,ar⟩;have a3:=ae (bh.trans (Fr.aJ (Fr.of ar)));clear ar aI aj af be am aH c0 c1;generalize decide (j=c5)=q;refine dW hK ?_;clear hK K;refine pf ?_;refine aB ?_;cases q
    .go_wp2_with(fail);go_roundw
     case rel=>exact⟨k+1,ad,by go_num,a3.o⟩
     case measure=>exact aF
    .go_wp2_with(fail);go_ret;exact⟨k,rfl,ad,ad,bf.trans a3.o⟩
   .have bH:(f == ex)=false:=by simp[hp]
    clear hp;go_upto_region 4 with(fail);refine eB (λ_=>False) [(0,3),(1,0),(2,3),(3,3),(4,3),(5,0),(6,3),(7,0),(8,3),(9,3),(10,3),(11,0),(12,3),(13,3),(14,3),(15,0),(16,3),(17,0),(18,2),(19,3)] ?_;refine pf ?_;refine ph ?_
    iterate 3 refine pf ?_
    refine ph ?_;refine pf ?_;refine ph ?_
    iterate 2 refine pf ?_
    refine c4 rfl (by rfl) ?_
    try simp only[PU]
    refine hy rfl (by rfl) ?_;exact yW
  .obtain rfl:k=n:=ad;go_wp2_with(fail);go_ret;exact⟨-1,rfl,ad,ad,bf.trans bh.o⟩
end Go.Proofs.YtajlmkkidmjgoaaGreatDoor
