/- Part 9 of the proof. No condition of its own. -/
import Derived.Test.YtpkfopfkdgkfkaaGreatQ04
import Derived.Test.YtpkfopfkdgkfkaaGreatQ06
import Derived.Test.YtpkfopfkdgkfkaaGreatQ08
namespace Go.Proofs.YtpkfopfkdgkfkaaGreat
open Go.RowKit Go.Proofs.Tryz
set_option maxRecDepth 1000000
set_option maxHeartbeats 25600000
set_option linter.unusedVariables false
variable{s:ByteArray}{d:D}{cs:List Value}{l:List dQ}{k n:Nat}{P:Nat->Prop}{A:Mt}{p:Prop}{t:TypeId}{v0 v1 v2:Value}{V X aS:World}{e:dQ}
theorem g3{w:World}{l:List D}:D.aM w P (d::l) cs↔∃x y,cs=x++y/\d.rep w P x/\D.aM w P l y:=by simp only[D.aM]
theorem jE{w:World}{r:e4}:(kL r).rep w P cs↔∃A n c,cs=[.string r.name,.slice A n c]/\n<=c/\Sl w P A n (r.idx.toList.map bm):=by
 unfold kL;rw[bN,cu];constructor
 .rintro⟨y,rfl,h⟩;rw[aO] at h;obtain⟨A,n,c,bx,rfl,hc,hs,aV⟩:=h;exact so
 .rintro⟨A,n,c,rfl,hc,hs⟩;exact vt
def b0(e:dQ):D:=.st [.s e.name,.i e.kind,.i e.n]
theorem yK(e:dQ):(b0 e).sz=3:=rfl
theorem iF{w:World}:(b0 e).rep w P cs↔cs=[.string e.name,.int .i64 e.kind,.int .i64 e.n]:=by
 unfold b0;rw[bN,cu];constructor
 .rintro⟨y,rfl,h⟩;rw[bo] at h;exact z3
 .rintro rfl;exact⟨_,rfl,bo.2 ⟨_,rfl,bo.2 ⟨_,rfl,aR.2 rfl⟩⟩⟩
theorem mF(x:aC):(ew x).sz=12:=by
 have ac:(oD x.expr).sz=4:=by
  cases x.expr with
  | none=>rfl
  | some x=>exact df x
 unfold ew dy;simp only[D.sz,D.zi,ac]
def Ms(g:Nat)(cv sv:Value):Nat->Prop:=λb=>b=g\/cv.ownBlock=some b\/sv.ownBlock=some b
structure Mv(g:Nat)(cv sv:Value)(w:World)(a f:Value)(ab:World):Prop where
 fr:Fr (Ms g cv sv) w ab
 own:∀b,b<w.heap.size->Ms g a f b->Ms g cv sv b
section
variable {g:Nat} {cv sv a f i m:Value} {w ab aT:World}
theorem Mv.refl(g:Nat)(cv sv:Value)(w:World):Mv g cv sv w cv sv w:=⟨Mo,λ_ _ h=>h⟩
theorem Mv.trans(h:Mv g cv sv w a f ab)(k:Mv g a f ab i m aT):Mv g cv sv w i m aT:=by
 refine⟨⟨k.fr.os.trans h.fr.os,k.fr.tape.trans h.fr.tape,k.fr.output.trans h.fr.output,L6 h.fr.size k.fr.size,λb O hn=>?_⟩,λb O hm=>?_⟩
 .exact(k.fr.block b (LL O h.fr.size) λhm=>hn (h.own b O hm)).trans (h.fr.block b O hn)
 .exact h.own b O (k.own b (LL O h.fr.size) hm)
theorem Mv.hq(h:Ext w ab):Mv g cv sv w cv sv ab:=⟨h.mono λ_ h=>h.elim,λ_ _ h=>h⟩
theorem Mv.JK(h:Fr (Ms g cv sv) w ab):Mv g cv sv w cv sv ab:=⟨h,λ_ _ h=>h⟩
theorem Mv.JL(h:Mv g cv sv w a f ab):∀b,off (Ms g cv sv) w b->off (Ms g a f) ab b:=
 λb O=>⟨LL O.1 h.fr.size,λhm=>O.2 (h.own b O.1 hm)⟩
theorem D.cT(h:d.rep w (off (Ms g cv sv) w) cs)(O:Mv g cv sv w a f ab):d.rep ab (off (Ms g a f) ab) cs:=
 D.aK O.JL _ _ (D.aS (λb an=>O.fr.block b an.1 an.2) _ _ h)
theorem Sl.cT{l:List D}(h:Sl w (off (Ms g cv sv) w) A n l)(O:Mv g cv sv w a f ab):Sl ab (off (Ms g a f) ab) A n l:=
 (h.ai (λb an=>O.fr.block b an.1 an.2)).mono O.JL
end
theorem rZ{w:World}{P:Nat->Prop}(t:Int):∀(code:List aC) (xs:List Value) (b:Nat),D.aM w P (code.map ew) xs->b<code.length->D.aM w P ((gm code b t).map ew) (xs.set (b*12+1) t)
 | [],xs,b,h,O=>by simp at O
 | x::code,xs,0,h,O=>by
  rw[LQ] at h;obtain⟨j,d,rfl,hx,bb⟩:=g3.1 h;have hl:=(D.gD _ _ hx).trans (mF x);have e:gm (x::code) 0 t={x with target:=t}::code:=rfl;rw[e,LQ,List.set_append_left _ _ ad];refine g3.2 ⟨_,_,rfl,?_,bb⟩;unfold ew at hx ⊢;rw[bN,bo] at hx ⊢;obtain⟨y,rfl,hx⟩:=hx;rw[bo] at hx;obtain⟨cX,rfl,hx⟩:=hx
  exact⟨_,rfl,bo.2 ⟨_,rfl,hx⟩⟩
 | x::code,xs,b+1,h,O=>by
  rw[LQ] at h;obtain⟨j,d,rfl,hx,bb⟩:=g3.1 h;have hl:=(D.gD _ _ hx).trans (mF x);have Z:=rZ t code d b bb (by simpa using O);have e:gm (x::code) (b+1) t=x::gm code b t:=rfl;rw[e,LQ,List.set_append_right _ _ ad,hl,show (b+1)*12+1 - 12=b*12+1 by omega];exact g3.2 ⟨_,_,rfl,hx,Z⟩
theorem cB(code:List aC)(b:Nat)(t:Int):(gm code b t).length=code.length:=by unfold gm;rw[List.length_modify]
theorem yt{P:Program}(S:World){o:Oper}{a:Act}{K:Act->World->Prop}{Q:Exit->Act->World->Prop}{e:TypeId}{z:Value}{size bytes:Nat}(bG:cn P t e z size bytes)(s x:Operand)
  (bn:o.op=.call {callee:=.builtin .append,args:=#[s,x],argTypes:=#[t,t]})
  (base:Nat) (v:Value) (n:Nat) (xs:List Value) (cs:Array Value) (hs:a.eval s=v) (ao:S.ownsRow base e size v n xs)
  (hx:a.eval x=.slice (some ⟨S,0,none⟩) 1 1) (T:cs.size=size) (ac:∀u∈cs.toList,u.oneCell'=true)
  (r:(n+1)*bytes<=140737488355328) (y:n+1<=140737488355328) (C:base<=S.heap.size)
  (h:∀G ab,ab.ownsRow base e size G (n+1) (xs++cs.toList)->S.grownBy ab v.ownBlock->(G.ownBlock=v.ownBlock\/G.ownBlock=some (S.heap.size+1))->K (a.put o.dst G) ab):o.wp P a (S.alloc (.cells cs e)) K Q:=by
 refine km _ bG s x bn base v n xs hs (ao.alloc _) _ 1 1 cs.toList hx (Src.block (heap_alloc_new S _) 1 ad ac) r y (by simp;omega) (λh=>nomatch h) λG ab ap aV bz=>?_;exact h G ab ap ⟨aV.os,aV.tape,aV.output,by have:=aV.size;simp at this;omega,λk aj bi=>(aV.block k (by simp;omega) bi).trans (Below.heap_alloc S _ k aj)⟩ (by simpa using bz)
theorem pD:cn prog 115 117 (.agg #[(0:Int),(0:Int),Mq,()]) 4 56:=cn.mk' Tryz.underlying115 (by kernel_rfl) rfl ad
abbrev fresh(w ab:World):Nat->Prop:=λb=>w.heap.size<=b/\b<ab.heap.size
theorem EB{w aT:World}(h:d.rep aS (fresh w aS) cs)(O:Ext aS aT):d.rep aT (fresh w aT) cs:=
 D.aK (λ_ an=>⟨an.1,LL an.2 O.size⟩) _ _ (D.aS (λb an=>O.block b an.2 (λh=>h)) _ _ h)
theorem wj{S w ab:World}(h:d.rep ab (fresh w ab) cs)(O:S.heap.size<=w.heap.size):d.rep ab (fresh S ab) cs:=
 D.aK (λ_ an=>⟨L6 O an.1,an.2⟩) _ _ h
def q9(e:dQ):Value:=.agg #[.string e.name,.int .i64 e.kind,.int .i64 e.n]
def jb:Option dQ->Value
 | some e=>.tuple #[q9 e,.bool true]
 | none=>.tuple #[.agg #[.string ⟨#[]⟩,.int .i64 0,.int .i64 0],.bool false]
theorem jZ(h:∀(j:Nat) (x:dQ),l[j]?=some x->x.name≠s):dJ l s=none:=by
 unfold dJ;rw[List.find?_eq_none];exact Ag
theorem tZ(aj:l[k]?=some e)(he:e.name=s)(h:∀(j:Nat) (x:dQ),j<k->l[j]?=some x->x.name≠s):dJ l s=some e:=by
 induction l generalizing k with
 | nil=>simp at aj
 | cons a l Z=>
  cases k with
  | zero=>
   simp only[List.getElem?_cons_zero,Mj] at aj;subst aj;unfold dJ
   rw[List.find?_cons_of_pos (by simpa using he)]
  | succ k=>
   simp only[List.getElem?_cons_succ] at aj;have aZ:=h 0 a ad rfl;unfold dJ;rw[List.find?_cons_of_neg (by simpa using aZ)];exact Z aj λj x bd hx=>h (j+1) x ad (by simpa using hx)
theorem ej(A:Mt)(n c:Nat)(l:List dQ)(s:ByteArray)(w:World)(h:Sl w (aq w) A n (l.map b0))(hn:n<=1000000) :
  Calls prog 34 #[.slice A n c,s] w λe ab=>e=.returned (jb (dJ l s))/\Ext w ab:=by
 have H:=ae h;have b6:=ae (show l.length=n by rw[<-h.1,LO]);clear h;go_enter func34,ntmps34;go_wp2;generalize ba:World.alloc _ _=W;have aw:=aU ba;have aQ:=aI ba;clear ba;have br:=ae aw;have bt:=ae (H.on (Fr.ext aw));obtain⟨a0,ai,af⟩:=aQ.two;have b9:=ae aQ;clear aw aQ
 go_loop [6] (λbH=>∃k:Nat,k<=n/\bH=.int .i64 k/\∀(j:Nat) (x:dQ),j<k->l[j]?=some x->x.name≠s) (λbH=>n - (intOf bH).toNat)
 case atStart=>exact⟨0,ad,rfl,λj x h=>ad⟩
 case round=>
  obtain⟨k,aj,rfl,bi⟩:=hrel;have bX:=ae bi;clear bi;by_cases an:k<n
  .obtain⟨b,o,x,cs,rfl,O,hx,a5,bh,a4⟩:=bt.hf yK an;obtain rfl:=iF.1 a5;have c0:=a4 0 _ rfl;have c1:=a4 1 _ rfl;have c2:=a4 2 _ rfl;simp only[LW] at c0;have a1:b<W:=O;have aN:=ae hx;clear hx a5 bh a4 O;by_cases hs:x.name=s
   .have b3:=ae (tZ aN.o hs bX.o);subst hs;go_wp2;generalize hX:World.setCell _ _ _=X;have bM:au X w 105 #[.string x.name,.int .i64 x.kind,.int .i64 x.n]:=hX▸((b9.aN 0 _).aN 1 _).aN 2 _;have aW:Ext w X:=hX▸((br.setCell (.inr (LK _)) _).setCell (.inr (LK _)) _).setCell (.inr (LK _)) _;obtain⟨e0,be,a6⟩:=bM.two;clear a0 ai af;refine Mn (v:=.tuple #[.agg #[.string x.name,.int .i64 x.kind,.int .i64 x.n],true]) (by simp[results,Tryz.results34,go_sem,e0]) rfl ?_;exact⟨by rw[b3.o];rfl,aW⟩
   .have q:=tt hs;have u:=ae hs;clear hs;go_wp2
    go_round
    case rel=>exact⟨k+1,ad,by go_num,λj y bd bb=>by
     by_cases ag:j=k
     .subst ag;rw[aN.o] at bb;injection bb with bb;subst bb;exact u.o
     .exact bX.o j y ad bb⟩
    case measure=>exact aH
  .have b3:=ae (jZ (l:=l) (s:=s) λj x bd=>bX.o j x (by have:=(List.getElem?_eq_some_iff.1 bd).1;have:=b6.o;omega) bd);go_wp2;generalize hX:World.setCell _ _ _=X;have bM:au X w 105 #[Mq,(0:Int),(0:Int)]:=hX▸((b9.aN 0 _).aN 1 _).aN 2 _;have aW:Ext w X:=hX▸((br.setCell (.inr (LK _)) _).setCell (.inr (LK _)) _).setCell (.inr (LK _)) _;obtain⟨e0,be,a6⟩:=bM.two;clear a0 ai af;refine Mn (v:=.tuple #[.agg #[Mq,(0:Int),(0:Int)],false]) (by simp[results,Tryz.results34,go_sem,e0]) rfl ?_;exact⟨by rw[b3.o];rfl,aW⟩
structure tF(w:World)(g:Nat)(l:List dQ):Prop where
 lt:g<w.heap.size
 ex:∃A n c,n<=1000000/\w.cell? ⟨g,3,none⟩=some (.slice A n c)/\Sl w (aq w) A n (l.map b0)
theorem tF.on{w ab:World}{g:Nat}(h:tF w g l)(O:Ext w ab):tF ab g l:=by
 exact DZ
theorem m6(g:Nat)(l:List dQ)(s:ByteArray)(v:dQ)(J:dJ l s=some v)(aj:v.kind=1\/v.kind=4)(st:Int)(w:World)(h:tF w g l) :
  Calls prog 120 #[.pointer (some ⟨g,0,none⟩),s,st] w λe ab=>e=.returned (q9 v)/\Ext w ab:=by
 have H:=ae h;clear h;go_enter func120,ntmps120;go_upto_region 1 with(fail);generalize ba:World.alloc _ _=W;have aw:=aU ba;have aQ:=aI ba;obtain⟨aR,A,n,c,hn,c3,hs⟩:=H.on aw;obtain⟨b9,br,bt⟩:=ef aQ aw hs;clear ba aw aQ hs;go_wp2_with(fail);refine(ej A n c l s W bt.o hn).mono ?_;rintro e aS ⟨rfl,ar⟩;have bB:=ae (br.trans ar);have G:=ae (b9.aj ar);rw[J];simp only[jb,q9];clear ar c3 aR;go_upto_region 2 with(fail);generalize hV:World.alloc _ _=V;have L:=aU hV;have a8:=ae (bB.trans L);have bz:=ae (G.aj L);have hC:=aI hV;obtain⟨a0,ai,af⟩:=hC.two;obtain⟨bq,am,aG⟩:=bz.two;clear hV L hC;have fin:∀X,X=((V.setCell ⟨w,0,none⟩ (.string v.name)).setCell ⟨w,1,none⟩ (.int .i64 v.kind)).setCell ⟨w,2,none⟩ (.int .i64 v.n)->au X w 105 #[.string v.name,.int .i64 v.kind,.int .i64 v.n]/\Ext w X:=by
  rintro X rfl;exact⟨((bz.aN 0 _).aN 1 _).aN 2 _,((a8.setCell (.inr (LK _)) _).setCell (.inr (LK _)) _).setCell (.inr (LK _)) _⟩
 have d:=ae fin;clear fin;obtain⟨bd,cL,bS⟩:=v;simp only at *;rcases aj with rfl|rfl
 all_goals
  go_wp2;generalize hX:World.setCell _ _ _=X;obtain⟨bI,a7⟩:=d.o X hX.symm;obtain⟨e0,be,a6⟩:=bI.two;clear a0 ai af bq am aG;refine Mn (v:=.agg #[bd,.int .i64 _,bS]) (by simp[results,Tryz.results120,go_sem,e0];rfl) rfl ?_;exact⟨rfl,a7⟩
def gh(l:List dQ):VE->Prop
 | .num _=>True
 | .hg s=>∃v,dJ l s=some v/\(v.kind=1\/v.kind=4)
 | .loc _=>False
 | .iI _=>False
 | .un op x=>(op=3\/op=4)/\gh l x
 | .bin op x y=>(5<=op/\op<=17)/\gh l x/\gh l y
theorem xW(x:VE):x.args.length<=2:=by cases x<;>simp[VE.args]
def pr(l:List dQ)(x:VE):Prop:=∀(g:Nat) (st op n:Int) (s:ByteArray) (A:Mt) (m c:Nat) (w:World),tF w g l->(bm x).rep w (aq w) [.int .i64 op,.int .i64 n,.string s,.slice A m c]->
 Calls prog 119 #[.pointer (some ⟨g,0,none⟩),.agg #[.int .i64 op,.int .i64 n,.string s,.slice A m c],.int .i64 st] w λr ab=>
  ∃(o a6:Int) (Q:ByteArray) (I:Mt) (b4 aE:Nat),r=.returned (.agg #[.int .i64 o,.int .i64 a6,.string Q,.slice I b4 aE])/\(bm (bP l x)).rep ab (fresh w ab) [.int .i64 o,.int .i64 a6,.string Q,.slice I b4 aE]/\Ext w ab
abbrev La(B:Nat)(wr:World)(v:Value):Nat->Prop:=λb=>B<=b/\b<wr.heap.size/\v.ownBlock≠some b
structure zs(w wr:World)(l:List dQ)(x:VE)(A:Mt)(m c k:Nat)(I:Mt)(aE:Nat)(xs:List Value):Prop where
 ext:Ext w wr
 b4:au wr w.heap.size 117 #[.int .i64 x.bf,.int .i64 x.numOf,.string x.bu,.slice A m c]
 b6:au wr (w.heap.size+1) 117 #[.int .i64 0,.int .i64 0,.string ⟨#[]⟩,.slice none 0 0]
 b8:au wr (w.heap.size+2) 117 #[.int .i64 x.bf,.int .i64 x.numOf,.string ⟨#[]⟩,.slice I k aE]
 own:wr.ownsRow (w.heap.size+3) 117 4 (.slice I k aE) k xs
 aM:D.aM wr (La (w.heap.size+3) wr (.slice I k aE)) ((x.args.take k).map λy=>bm (bP l y)) xs
theorem zs.next{w wr aT:World}{x y:VE}{m c:Nat}{I cC:Mt}{aE c3:Nat}{xs:List Value}{b0:List Value}(h:zs w wr l x A m c k I aE xs)(bb:x.args[k]?=some y)
  (he:Ext wr aS) (a5:(bm (bP l y)).rep aS (fresh wr aS) b0) (ao:aT.ownsRow (w.heap.size+3) 117 4 (.slice cC (k+1) c3) (k+1) (xs++b0)) (aR:aS.grownBy aT (Value.slice I k aE).ownBlock)
  (O:(Value.slice cC (k+1) c3).ownBlock=(Value.slice I k aE).ownBlock\/(Value.slice cC (k+1) c3).ownBlock=some (aS.heap.size+1)) (hX:aT.setCell ⟨w.heap.size+2,3,none⟩ (.slice cC (k+1) c3)=X) :
  zs w X l x A m c (k+1) cC c3 (xs++b0):=by
 have an:∀g,(Value.slice I k aE).ownBlock=some g->w.heap.size+3<=g/\g<wr.heap.size:=λg aR=>h.own.lt g aR;have d:=h.b8.lt;have e1:=he.size;have e2:=aR.size;have b4:=cp hX;have a:∀b,b<aS.heap.size->b≠w.heap.size+2->some b≠(Value.slice I k aE).ownBlock->X.heap[b]?=aS.heap[b]?:=λb ac ap aV=>(b4.block b ad ap).trans (aR.block b ac aV);have bi:∀b,b<w.heap.size+3->some b≠(Value.slice I k aE).ownBlock:=λb O he=>by have:=an b he.symm;omega
 have ce:∀b,b<wr.heap.size->b≠w.heap.size+2->some b≠(Value.slice I k aE).ownBlock->X.heap[b]?=wr.heap[b]?:=λb ac ap aV=>(a b ad ap aV).trans (he.block b ac λh=>h);have cr:X=aT.heap.size:=by rw[<-hX];simp
 refine⟨?_,?_,?_,?_,?_,?_⟩
 .refine⟨?_,?_,?_,by have:=h.ext.size;omega,λb O _=>?_⟩
  .exact b4.os.trans (aR.os.trans (he.os.trans h.ext.os))
  .exact b4.tape.trans (aR.tape.trans (he.tape.trans h.ext.tape))
  .exact b4.output.trans (aR.output.trans (he.output.trans h.ext.output))
  .have:=h.ext.size;exact(ce b ad ad (bi b ad)).trans (h.ext.block b O λh=>h)
 .exact(ce _ ad ad (bi _ ad)).trans h.b4
 .exact(ce _ ad ad (bi _ ad)).trans h.b6
 .have cW:au aT (w.heap.size+2) 117 #[.int .i64 x.bf,.int .i64 x.numOf,Mq,.slice I k aE]:=(h.b8.aj he).grown aR (bi _ ad);rw[<-hX];exact cW.aN 3 _
 .refine⟨ao.1,?_⟩;rcases ao.2 with ap|⟨g,cap,cur,bE,j,aW,rest⟩
  .exact .inl ap
  .exact .inr ⟨g,cap,cur,bE,j,(b4.block g (Array.getElem?_eq_some_iff.1 aW).1 ad).trans aW,rest⟩
 .rw[List.take_add_one,bb,LR];refine D.cA ?_ ?_
  .refine D.bK (λb bg=>⟨bg.1,by have:=bg.2.1;omega,λhc=>?_⟩) _ _ (D.bG (λb bg=>ce b bg.2.1 (ay bg.1) λhe=>bg.2.2 he.symm) _ _ h.aM);rcases O with O|O
   .rw[O] at hc;exact bg.2.2 hc
   .rw[O] at hc;injection hc with hc;have:=bg.2.1;omega
  .simp only[Option.toList_some,LQ,Me];rw[D.bg];refine D.aK (λb bg=>⟨by have:=bg.1;omega,by have:=bg.2;omega,λhc=>?_⟩) _ _ (D.aS (λb bg=>a b bg.2 (ay bg.1) λhe=>by have:=(an b he.symm).2;have:=bg.1;omega) _ _ a5);rcases O with O|O
   .rw[O] at hc;have:=(an b hc).2;have:=bg.1;omega
   .rw[O] at hc;injection hc with hc;have:=bg.2;omega
theorem w4(l:List dQ)(x:VE)(h:(∃op y,x=.un op y)\/∃op y z,x=.bin op y z):(bP l x).bf=x.bf/\(bP l x).numOf=x.numOf/\(bP l x).bu=⟨#[]⟩/\(bP l x).args=x.args.map (bP l):=by
 rcases h with⟨op,y,rfl⟩|⟨op,y,z,rfl⟩<;>exact⟨rfl,rfl,rfl,rfl⟩
theorem x3{w:World}{g:Nat}{cr:Value}{cs:Array Value}(hs:cs.size=4)(aQ:au V g 117 cs)(aw:Ext w V)(aR:w.heap.size<=g)(hX:(((V.setCell ⟨g,0,none⟩ v0).setCell ⟨g,1,none⟩ v1).setCell ⟨g,2,none⟩ v2).setCell ⟨g,3,none⟩ cr=X):
  au X g 117 #[v0,v1,v2,cr]/\Ext w X/\Fr (λb=>b=g) V X:=by
 subst hX;refine⟨?_,(((aw.setCell (.inr aR) _).setCell (.inr aR) _).setCell (.inr aR) _).setCell (.inr aR) _,((((Fr.refl (λb=>b=g) V).setCell (.inl rfl) _).setCell (.inl rfl) _).setCell (.inl rfl) _).setCell (.inl rfl) _⟩;have:=(((aQ.aN 0 v0).aN 1 v1).aN 2 v2).aN 3 cr
 match cs,hs with
 | ⟨[c0,c1,c2,c3]⟩,_=>exact this
namespace B7
theorem pz(h:p:=by
 have bQ:m<=2:=by rw[<-hs.1,LO];exact xW x
 have cj:x.args.length=m:=by rw[<-hs.1,LO]
 obtain⟨bF,b6,bt,b5⟩:=iY cj bD hs Z;have ct:=ae (w4 l x r);clear a5 Z bD hs cj r;go_enter func119,ntmps119;go_upto_region 1 with(fail);generalize ba:World.alloc _ _=W;have aw:=h9 ba;have bZ:=gb ba;have cH:=fG ba;have cN:W=w.heap.size+2:=by rw[<-ba];simp
 clear ba;obtain⟨a0,ai,af⟩:=bZ.two;go_upto_region 7 with(fail);generalize hV:World.alloc _ _=V;have L:=aU hV;have hC:au V (w.heap.size+2) 117 #[.int .i64 x.bf,.int .i64 x.numOf,Mq,()]:=hV▸au.gX _ _ _ cN.symm;have HA:=ae (show zs w V l x A m c 0 none 0 [] from ⟨aw.trans L,bZ.aj L,cH.aj L,hC,⟨by simp,.inl ⟨rfl,rfl⟩⟩,by simp only[List.take_zero,Me,D.aM]⟩);clear hV L hC bZ cH aw cN a0 ai af;go_wp2;go_loopw [9] (λbH wr=>∃(k:Nat) (I:Mt) (aE:Nat) (xs:List Value),k<=m/\bH=.int .i64 k/\zs w wr l x A m c k I aE xs) (λbH _=>m - (intOf bH).toNat)
 case atStart=>exact⟨0,none,0,[],ad,rfl,HA.o⟩
 case round=>
  obtain⟨k,I,aE,xs,aj,rfl,bG⟩:=hrel;clear HA;have HA:=ae bG;obtain⟨a0,ai,af⟩:=bG.b4.two;obtain⟨bq,am,aG⟩:=bG.b6.two;obtain⟨e0,be,a6⟩:=bG.b8.two;by_cases an:k<m
  .obtain⟨b,o,y,cs,rfl,O,bb,bR,bh,a4⟩:=(bt.on (Fr.ext bG.ext)).hf df an
   match cs,bh with
   | [cK,cp,cX,bx],_=>
   have c0:=a4 0 cK rfl;have c1:=a4 1 cp rfl;have c2:=a4 2 cX rfl;have c3:=a4 3 bx rfl;simp only[LW] at c0;have a1:b<wr:=O;obtain⟨B,bv,bc,e,cx,cv⟩:=aZ.1 bR;simp only[List.cons.injEq,and_true] at e;obtain⟨rfl,rfl,rfl,rfl⟩:=e;obtain⟨bC,H⟩:=aJ bb bR;have bU:=ae (b5.o k y bb);have u:=ae (b6.on bG.ext);clear bb bR cv a4 O bG bq am aG;go_wp2;refine eJ (λ_=>False) [(0,3),(1,0),(2,3),(3,3),(4,0),(5,3),(6,3),(7,0),(8,3),(9,1),(10,1),(11,2),(12,3),(13,2)] ?_;refine pf ?_;refine ph ?_
   iterate 2 refine pf ?_
   refine ph ?_
   iterate 2 refine pf ?_
   refine ph ?_;refine pf ?_;refine aB rfl (λK hK=>?_);go_simp;refine(bU.o g st _ _ _ _ _ _ _ (u.on Mo.drew) (D.on H.o (Fr.ext Mo.drew))).mono ?_;rintro e aS ⟨o1,n1,s1,cR,c5,cq,rfl,c7,ar⟩;refine dq hK (ar) ?_;clear hK K;have aO:Ext wr aS:=Fr.aG ar;have G:(bm (bP l y)).rep aS (fresh wr aS) [o1,n1,s1,.slice cR c5 cq]:=c7;have aq:=ag aO G;refine rb ?_;refine ax rfl (λK hK=>?_);rw[if_pos (by rfl)];have cW:w+3<=aS.heap.size:=by have:=HA.b8.lt;have:=aO.size;omega
   refine yt _ pD (.tmp 40) (.tmp 49) (by rfl) (w.heap.size+3) (.slice I k aE) k xs _ (by rfl) (b2 HA.own (Fr.ext aO)) (by rfl) (by rfl) (by simp[Value.oneCell']) ad ad cW ?_;intro v2 aT S al E;obtain⟨cC,a9,rfl,bk,_⟩:=bT S;have i:au aT (w.heap.size+2) 117 _:=(HA.b8.aj aO).grown al (λhe=>by have:=HA.own.lt _ he.symm;omega);have bX:=az S al E;clear S al E c7 G ar a0 ai af e0 be a6 c0 c1 c2 c3 a1;obtain⟨e0,be,a6⟩:=i.two;refine dX hK ?_;clear hK K;refine pf ?_;refine ax rfl (λK hK=>?_);go_simp;refine dX hK ?_;clear hK K;refine aF ?_;clear e0 be a6;generalize hX:World.setCell aT _ _=X;have cT:=ae (HA.next bC.o aq.1 aq.2 bX.1 bX.2.1 bX.2.2 hX);clear hX i aO;go_wp2;go_roundw
   case rel=>exact⟨k+1,cC,a9,_,ad,by go_num,cT.o⟩
   case measure=>exact aH
  .obtain rfl:m=k:=ad;clear bG;go_wp2;generalize hX:World.setCell _ _ _=X;obtain⟨bI,a7,a2⟩:=x3 rfl HA.b6 HA.ext (Nat.le_succ _) hX;obtain⟨bl,aD,aP⟩:=bI.two;clear a0 ai af bq am aG e0 be a6;refine Mn (v:=.agg #[.int .i64 x.bf,.int .i64 x.numOf,Mq,.slice I m aE]) (by simp[results,Tryz.results119,go_sem,bl]) rfl ?_;refine⟨_,_,_,_,_,_,rfl,?_,a7⟩;obtain⟨ac,ap,aV,bz⟩:=ct.o;have ao:=HA.own;obtain⟨_,_,bE,hle,_⟩:=bT ao;injection bE with dy dG hv3;have aX:=HA.aM;have an:∀g,(Value.slice I m aE).ownBlock=some g->w.heap.size+3<=g/\g<wr.heap.size:=λg aR=>ao.lt g aR;have ck:X=wr.heap.size:=by rw[<-hX];simp
   rw[<-bF.o,List.take_length] at aX;refine aZ.2 ⟨I,m,aE,by rw[ac,ap,aV],ad,?_⟩;rw[bz,List.map_map];have f:X.ownsRow (w.heap.size+3) 117 4 (.slice I m aE) m xs:=by
    refine⟨ao.1,?_⟩;rcases ao.2 with ap|⟨g,cap,cur,bE,j,aW,rest⟩
    .exact .inl ap
    .exact .inr ⟨g,cap,cur,bE,j,(a2.block g (Array.getElem?_eq_some_iff.1 aW).1 ad).trans aW,rest⟩
   refine Sl.mQ f (D.bK (λb bg=>⟨by have:=bg.1;omega,by have:=bg.2.1;omega⟩) _ _ (D.bG (λb bg=>a2.block b bg.2.1 (ay bg.1)) _ _ aX)) (by rw[LO];exact bF.o) (λg _ ac ap=>⟨ad,ap⟩)
 ):p:=h
end B7
open B7 in
theorem rH(l:List dQ)(x:VE)(r:(∃op y,x=.un op y)\/∃op y z,x=.bin op y z)(cJ:(x.bf == 2)=false)(Z:∀(k:Nat) (y:VE),x.args[k]?=some y->pr l y):pr l x:=by
 intro g st op n s A m c w bD a5;exact py
def VE.leaf:VE->Prop
 | .un _ _=>False
 | .bin _ _ _=>False
 | _=>True
namespace B8
theorem pz(h:p:=by
 have bQ:m<=2:=by rw[<-hs.1,LO];exact xW x
 have cj:x.args.length=m:=by rw[<-hs.1,LO]
 obtain⟨b6,bt,b5⟩:=ef bD hs Z;clear a5 Z bD hs;go_enter func119,ntmps119;go_upto_region 1 with(fail);generalize ba:World.alloc _ _=W;have aw:=h9 ba;have bZ:=gb ba;have cH:=fG ba;have cN:W=w.heap.size+2:=by rw[<-ba];simp
 clear ba;obtain⟨br,T,bE⟩:=ef aw bZ cH;obtain⟨a0,ai,af⟩:=bZ.two;obtain⟨bq,am,aG⟩:=cH.two;clear aw bZ cH
 cases x with
 | loc j=>exact hx.elim
 | iI j=>exact hx.elim
 | hg s=>
  obtain⟨v,J,aj⟩:=hx;have d:=ae (show bP l (.hg s)=if v.kind=1 then .iI v.n else .loc v.n by unfold bP;simp only[J]);simp only[VE.bf,VE.numOf,VE.bu] at *;go_wp2_with(fail);refine(m6 g l s v J aj st W (b6.on br.o)).mono ?_;rintro e aS ⟨rfl,ar⟩;have bB:=ae (br.trans ar);have i:=ae (bE.aj ar);clear ar a0 ai af bq am aG J;obtain⟨bd,cL,bS⟩:=v;simp only[q9] at *;go_upto_region 3 with(fail);generalize hV:World.alloc _ _=V;have L:=aU hV;have a8:=ae (bB.trans L);have u:=ae (i.aj L);have hC:=aI hV;obtain⟨a0,ai,af⟩:=hC.two;obtain⟨bq,am,aG⟩:=u.two;clear hV L hC;rcases aj with rfl|rfl
  .go_wp2;generalize hX:World.setCell _ _ _=X;obtain⟨bI,a7,_⟩:=x3 rfl u.o a8.o (Nat.le_succ _) hX;obtain⟨e0,be,a6⟩:=bI.two;clear a0 ai af bq am aG;refine Mn (v:=.agg #[(19:Int),bS,Mq,()]) (by simp[results,Tryz.results119,go_sem,e0]) rfl ?_;refine⟨_,_,_,_,_,_,rfl,?_,a7⟩;rw[show bP l (.hg s)=.iI bS by simpa using d.o];exact aZ.2 ⟨none,0,0,rfl,LK _,Sl.bS _⟩
  .go_wp2;generalize hX:World.setCell _ _ _=X;obtain⟨bI,a7,_⟩:=x3 rfl u.o a8.o (Nat.le_succ _) hX;obtain⟨e0,be,a6⟩:=bI.two;clear a0 ai af bq am aG;refine Mn (v:=.agg #[(18:Int),bS,Mq,()]) (by simp[results,Tryz.results119,go_sem,e0]) rfl ?_;refine⟨_,_,_,_,_,_,rfl,?_,a7⟩;rw[show bP l (.hg s)=.loc bS by simpa using d.o]
   exact aZ.2 ⟨none,0,0,rfl,LK _,Sl.bS _⟩
 | num n=>
  obtain rfl:0=m:=cj;simp only[VE.bf,VE.numOf,VE.bu] at *;go_upto_region 7 with(fail);generalize hV:World.alloc _ _=V;have L:=aU hV;have a8:=ae (br.trans L);have u:=ae (bE.aj L);have hC:au V (w.heap.size+2) 117 #[(1:Int),n,Mq,()]:=hV▸au.gX _ _ _ cN.symm;have f:=T.aj L;clear a0 ai af bq am aG;obtain⟨c0,cl,b1⟩:=f.two;obtain⟨a0,ai,af⟩:=hC.two;obtain⟨bq,am,aG⟩:=u.two;clear hV L hC f;go_wp2;refine wp_loop_rounds 1 ?_;rw[rounds_succ];go_wp2;generalize hX:World.setCell _ _ _=X;obtain⟨bI,a7,_⟩:=x3 rfl u.o a8.o (Nat.le_succ _) hX;obtain⟨e0,be,a6⟩:=bI.two;clear a0 ai af bq am aG;refine Mn (v:=.agg #[(1:Int),n,Mq,()]) (by simp[results,Tryz.results119,go_sem,e0]) rfl ?_
  exact⟨_,_,_,_,_,_,rfl,aZ.2 ⟨none,0,0,rfl,LK _,Sl.bS _⟩,a7⟩
 | un op y=>exact bm.elim
 | bin op y z=>exact bm.elim
 ):p:=h
end B8
open B8 in
theorem rI(l:List dQ)(x:VE)(hx:gh l x)(bm:x.leaf)(Z:∀(k:Nat) (y:VE),x.args[k]?=some y->pr l y):pr l x:=by
 intro g st op n s A m c w bD a5;exact py
theorem k9(l:List dQ)(x:VE)(hx:gh l x)(Z:∀(k:Nat) (y:VE),x.args[k]?=some y->pr l y):pr l x:=by
 cases x with
 | un op y=>exact rH l _ (.inl ⟨_,_,rfl⟩) (by rcases hx.1 with h|h<;>(show (op == 2)=false;rw[h];rfl)) Z
 | bin op y z=>exact rH l _ (.inr ⟨_,_,_,rfl⟩) (by have:=hx.1.1;show (op == 2)=false;simp;omega) Z
 | num n=>exact rI l _ hx trivial Z
 | hg n=>exact rI l _ hx trivial Z
 | loc j=>exact hx.elim
 | iI j=>exact hx.elim
theorem gx(l:List dQ):∀(x:VE),gh l x->pr l x
 | .num n,h=>k9 l _ h λk y bb=>by simp[VE.args] at bb
 | .hg n,h=>k9 l _ h λk y bb=>by simp[VE.args] at bb
 | .loc n,h=>h.elim
 | .iI n,h=>h.elim
 | .un op y,h=>k9 l _ h λk z aL=>by
  match k,aL with
  | 0,aL=>simp[VE.args] at aL;subst aL;exact gx l y h.2
 | .bin op x y,h=>k9 l _ h λk z aL=>by
  match k,aL with
  | 0,aL=>simp[VE.args] at aL;subst aL;exact gx l x h.2.1
  | 1,aL=>simp[VE.args] at aL;subst aL;exact gx l y h.2.2
structure yy(w:World)(g:Nat)(M:List bM):Prop where
 lt:g<w.heap.size
 ex:∃A n c,n<=1000000/\w.cell? ⟨g,1,none⟩=some (.slice A n c)/\Sl w (aq w) A n (M.map eK)
theorem yy.on{w ab:World}{g:Nat}{M:List bM}(h:yy w g M)(O:Ext w ab):yy ab g M:=by
 exact DZ
def qy(M:List bM)(l:List dQ)(r:e4):Prop:=∃v,dJ l r.name=some v/\
 ((v.kind=5/\r.idx=none)\/(v.kind=2/\∃m,0<=v.n/\M[v.n.toNat]?=some m/\(0<m.size->∃e,r.idx=some e/\gh l e)/\(¬0<m.size->r.idx=none)))
theorem eh{w:World}{p:bU}:(dy p).rep w P cs↔∃A n c,cs=[.bool p.param,.int .i64 p.index,.slice A n c]/\n<=c/\Sl w P A n (p.at_.toList.map bm):=by
 unfold dy;rw[bN,fD];constructor
 .rintro⟨y,rfl,h⟩;rw[bo] at h;obtain⟨cX,rfl,h⟩:=h;rw[aO] at h;obtain⟨A,n,c,bx,rfl,hc,hs,aV⟩:=h;exact so
 .rintro⟨A,n,c,rfl,hc,hs⟩;exact⟨_,rfl,bo.2 ⟨_,rfl,aO.2 ⟨A,n,c,[],rfl,hc,hs,aR.2 rfl⟩⟩⟩
theorem pX{w:World}{g:Nat}{c0 c1 c2:Value}(aQ:au V g t #[c0,c1,c2])(aw:Ext w V)(aR:w.heap.size<=g)(hX:((V.setCell ⟨g,0,none⟩ v0).setCell ⟨g,1,none⟩ v1).setCell ⟨g,2,none⟩ v2=X):
  au X g t #[v0,v1,v2]/\Ext w X/\Fr (λb=>b=g) V X:=by
 subst hX;exact⟨((aQ.aN 0 v0).aN 1 v1).aN 2 v2,((aw.setCell (.inr aR) _).setCell (.inr aR) _).setCell (.inr aR) _,(((Fr.refl (λb=>b=g) V).setCell (.inl rfl) _).setCell (.inl rfl) _).setCell (.inl rfl) _⟩
def H6(w:World)(p:bU)(e:Ending)(ab:World):Prop:=
 ∃(b:Bool) (i:Int) (A:Mt) (n c:Nat),e=.returned (.agg #[.bool b,.int .i64 i,.slice A n c])/\(dy p).rep ab (fresh w ab) [.bool b,.int .i64 i,.slice A n c]/\Ext w ab
def vo:Prop:=∀(g:Nat) (l:List dQ) (M:List bM) (r:e4),qy M l r->∀(st:Int) (s:ByteArray) (A:Mt) (n c:Nat) (w:World),tF w g l->yy w g M->(kL r).rep w (aq w) [.string s,.slice A n c]->
  Calls prog 122 #[.pointer (some ⟨g,0,none⟩),.agg #[.string s,.slice A n c],.int .i64 st] w (H6 w (mh l r))
structure h5 where
 proc:Int
 an:List Int
def fO(i:h5):D:=.st [.i i.proc,.sl (i.an.map .i)]
theorem kK{w:World}{i:h5}:(fO i).rep w P cs↔∃A c n,cs=[.int .i64 i.proc,.slice A n c]/\n<=c/\Sl w P A n (i.an.map .i):=by
 unfold fO;simp only[D.rep];rw[bo];constructor
 .rintro⟨r,rfl,h⟩;obtain⟨A,n,c,y,rfl,hc,hs,bb⟩:=aO.1 h;rw[aR] at bb;subst bb;exact⟨A,c,n,rfl,hc,hs⟩
 .rintro⟨A,c,n,rfl,hc,hs⟩;exact vt
theorem Sl.wx{w:World}{l:List h5}(h:Sl w P A n (l.map fO))(aj:k<n):
  ∃b o x cX cO cY,A=some ⟨b,o,none⟩/\P b/\l[k]?=some x/\w.cell? ⟨b,o+k*2,none⟩=some (.int .i64 x.proc)/\w.cell? ⟨b,o+k*2+1,none⟩=some (.slice cX cO cY)/\cO<=cY/\Sl w P cX cO (x.an.map .i):=by
 obtain⟨b,o,x,cs,bG,O,hx,a5,hl,hc⟩:=Sl.hf (z:=2) h (λ_=>rfl) aj;obtain⟨cX,cY,cO,rfl,ac,ap⟩:=kK.1 a5;exact⟨b,o,x,cX,cO,cY,bG,O,hx,hc 0 _ rfl,hc 1 _ rfl,ac,ap⟩
namespace B9
theorem Bi(h:p:=by
 refine ax rfl (λK hK=>?_);go_simp;refine dX hK ?_;clear hK K;refine pf ?_;refine aF ?_;go_wp2_with(fail);go_roundw
 case rel=>exact⟨k+1,ad,by go_num,bB.drew⟩
 case measure=>exact aH
 ):p:=h
end B9
open B9 in
theorem pY(IA:Mt)(n ic:Nat)(S:Mt)(cT b2:Nat)(cM:Mt)(bI rc:Nat)(L:List h5)(x:h5)(cX:Mt)(cO cY:Nat)(w:World)
  (bD:Sl w (aq w) IA n (L.map fO)) (hx:Sl w (aq w) cX cO (x.an.map .i)) (hn:n<=1000000) (aj:∀i∈L,i.an.length<=1000000) :
  Calls prog 37 #[.agg #[.slice IA n ic,.slice S cT b2,.slice cM bI rc],.agg #[.int .i64 x.proc,.slice cX cO cY]] w λe ab=>∃r:Int,e=.returned r∧-1<=r/\r<n/\Ext w ab:=by
 obtain⟨b6,aN,da⟩:=ef bD hx aj;obtain⟨eK,dt⟩:=x;simp only at aN ⊢;clear bD hx aj;go_enter func37,ntmps37;go_wp2_with(fail);generalize ba:World.alloc _ _=W;have aw:=h9 ba;have aQ:=gb ba;have bM:=fG ba;obtain⟨br,b9,bz⟩:=ef aw aQ bM;clear ba aw aQ bM;go_loopw [5] (λi wr=>∃k:Nat,k<=n/\i=.int .i64 k/\Ext W wr) (λi _=>n - (intOf i).toNat)
 case atStart=>exact⟨0,Md _,rfl,Mo⟩
 case round=>
  obtain⟨k,aj,rfl,he⟩:=hrel;have bB:=ae he;have b0:=b9.aj he;have bj:=bz.aj he;obtain⟨G,g⟩:=aJ b0 bj;obtain⟨a0,ai,af⟩:=b0.two;obtain⟨bq,am,aG⟩:=bj.two;clear he b0 bj;by_cases an:k<n
  .obtain⟨b,o,y,c5,dd,de,rfl,aB,bb,c0,c1,c9,c4⟩:=(b6.on (Fr.ext (br.trans bB.o))).wx an;obtain⟨f,j⟩:=y;simp only at c0 c4;have aT:dd<=140737488355328:=by have:=da.o _ (LN bb);have:=c4.1;simp at this;simp at *;omega
   have bp:(0:Int)<=(k:Int):=ad;have ce:(k:Int)<(n:Int):=ad;have dh:=ae c4;have du:=ae (aN.on (Fr.ext (br.trans bB.o)));have d:=ae aT;clear bb c4 aT c9;by_cases hp:f=eK
   .have cD:(f == eK)=true:=by simp[hp]
    clear hp;go_upto_region 4 with(fail);refine eJ (λ_=>False) [(0,3),(1,0),(2,3),(3,3),(4,3),(5,0),(6,3),(7,0),(8,3),(9,3),(10,3),(11,0),(12,3),(13,3),(14,3),(15,0),(16,3),(17,0),(18,2),(19,3)] ?_;refine pf ?_;refine ph ?_
    iterate 3 refine pf ?_
    refine ph ?_;refine pf ?_;refine ph ?_
    iterate 3 refine pf ?_
    refine ph ?_
    iterate 3 refine pf ?_
    refine ph ?_;refine pf ?_;refine ph ?_;refine ax rfl (λK hK=>?_);go_simp;refine(tp c5 cX dd de cO cY j dt wr.drew (dh.on (Fr.ext Mo.drew)) (du.on (Fr.ext Mo.drew)) d.o).mono ?_;rintro e aS ⟨rfl,ar⟩;have a8:=ae (bB.trans (Fr.aG (Fr.of ar)));clear ar a0 ai af bq am aG c0 c1;generalize decide (j=dt)=q;refine dX hK ?_;clear hK K;refine pf ?_;refine aF ?_;cases q
    .go_wp2_with(fail);go_roundw
     case rel=>exact⟨k+1,ad,by go_num,a8.o⟩
     case measure=>exact aH
    .go_wp2_with(fail);go_ret;exact⟨k,rfl,ad,ad,br.trans a8.o⟩
   .have cD:(f == eK)=false:=by simp[hp]
    clear hp;go_upto_region 4 with(fail);refine eJ (λ_=>False) [(0,3),(1,0),(2,3),(3,3),(4,3),(5,0),(6,3),(7,0),(8,3),(9,3),(10,3),(11,0),(12,3),(13,3),(14,3),(15,0),(16,3),(17,0),(18,2),(19,3)] ?_;refine pf ?_;refine ph ?_
    iterate 3 refine pf ?_
    refine ph ?_;refine pf ?_;refine ph ?_
    iterate 2 refine pf ?_
    refine dz rfl (by rfl) ?_
    try simp only[PU]
    refine iv rfl (by rfl) ?_;exact Bh
  .obtain rfl:k=n:=ad;go_wp2_with(fail);go_ret;exact⟨-1,rfl,ad,ad,br.trans bB.o⟩
end Go.Proofs.YtpkfopfkdgkfkaaGreat
