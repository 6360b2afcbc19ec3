/- Part 37 of the proof. No condition of its own. -/
import Derived.Test.YtflecliffjbleaaGreatS14
import Derived.Test.YtflecliffjbleaaGreatS36
namespace Go.Proofs.YtflecliffjbleaaGreat
open Go.RowKit Go.Proofs.Tryz
set_option maxRecDepth 1000000
set_option maxHeartbeats 25600000
set_option linter.unusedVariables false
variable{cs:List Value}{left:Nat}{P:Nat->Prop}{p:Prop}{ab w:World}
structure kz where
 s:Nat
 wb:Nat
 A:Option Addr
 n:Nat
 c:Nat
 l:List Int
 GA:Option Addr
 gn:Nat
 gc:Nat
 MA:Option Addr
 mn:Nat
 mc:Nat
 FA:Option Addr
 fn:Nat
 fc:Nat
 M:List bL
 F:List aG
 ar:Bool
abbrev kz.MW(p:kz):Nat->Prop:=λb=>b=p.s\/b=p.wb
structure gH(w:World)(p:kz)(left:Nat):Prop where
 src:cp w p.s p.A p.n p.c p.l
 blk:ao w p.wb 169 #[.pointer (some ⟨p.s,0,none⟩),.slice p.GA p.gn p.gc,.slice p.MA p.mn p.mc,.slice p.FA p.fn p.fc,.int .i64 left,.bool p.ar]
 ne:p.s<p.wb
 ms:Sl w (off p.MW w) p.MA p.mn (p.M.map eC)
 fs:Sl w (off p.MW w) p.FA p.fn (p.F.map dy)
 nm:1<=p.mn/\p.mn<=4
 nf:1<=p.fn/\p.fn<=4
 gO:∀m∈p.M,0<=m.size/\m.size<=3
 jf:∀f∈p.F,f.params.length<=2
 kR:left<=24
theorem gH.next{p:kz}(h:gH w p left)(hs:cp ab p.s p.A p.n p.c p.l)(O:Fr (λb=>b=p.s) w ab):gH ab p left:=
 ⟨hs,h.blk.on O (aB h.ne),h.ne,Sl.cS h.ms (O.mono λ_ h=>.inl h),Sl.cS h.fs (O.mono λ_ h=>.inl h),h.nm,h.nf,h.gO,h.jf,h.kR⟩
theorem gH.aj{p:kz}(h:gH w p left)(O:Ext w ab):gH ab p left:=h.next (h.src.cT O λ_ _ h=>h) (O.mono λ_ h=>h.elim)
theorem nu.aj{s:Nat}{V:Ml}{N:Mk}{bn:Nat}(h:nu w s V N bn)(O:Ext w ab):nu ab s V N bn:=h.on (O.mono λ_ h=>h.elim)
theorem iU{V:Ml}:∀(d:Nat) (x:VE),x.src V d->x.src V (d+1)
 | d,.num _,h=>by cases d<;>exact h
 | d,.ha _,h=>by cases d<;>exact h
 | d,.loc _,h=>by cases d<;>exact h.elim
 | d,.iK _,h=>by cases d<;>exact h.elim
 | 0,.un _ _,h=>h.elim
 | 0,.bin _ _ _,h=>h.elim
 | d+1,.un _ x,h=>⟨h.1,iU d x h.2⟩
 | d+1,.bin _ x y,h=>⟨h.1,iU d x h.2.1,iU d y h.2.2⟩
namespace CQ
theorem AX(h:p:=by
 refine Mf (v:=.agg #[.int .i64 x.a2,.int .i64 x.numOf,.string x.bt,.slice cr cd cC]) (by simp[results,Tryz.results139,go_sem,bp]) rfl ?_;obtain⟨hx,aL,ce,cg,bP⟩:=aR.o;have bX:=H1.2.2.2.lt;exact⟨x,cr,cd,cC,rfl,iU 1 x hx,aL,(ce.ak λb O=>bJ.block b O.2 (aB O.1)).mono λb O=>⟨by have:=O.1;omega,LC O.2 bJ.size⟩,bZ.1.cT bJ (λb O h=>ad),bx⟩
 ):p:=h
theorem Be(h:p:=by
 cases ar with
 | false=>
  go_wp2_with(fail);refine(aY _ s A n c l sz ag.1.src ac ad).mono ?_;rintro e aP ⟨cv,rfl,bm,bX,h,he⟩;have aS:=ag.2.2.2.on he.fr ad;have H1:=ah h (ag.2.2.1.trans he.fr);have cK:=ah bm bX;obtain⟨e0,a6,aQ⟩:=aS.two;have bH:=ae aS;clear a0 ak af h he aS bm bX;go_wp2_with(fail);generalize cq:World.setCell _ _ _=Y;obtain⟨bD,bx,bJ⟩:=ef (M:=λb=>b=s) [.int .i64 1,.int .i64 cv,.string ⟨#[]⟩,.slice none 0 0] (by rfl) bH.o H1.2 (Lz _) cq;obtain⟨bp,aM,aV⟩:=bD.two;refine Mf (v:=.agg #[.int .i64 1,.int .i64 cv,.string ⟨#[]⟩,.slice none 0 0]) (by simp[results,Tryz.results139,go_sem,bp]) rfl ?_
  exact⟨.num cv,none,0,0,rfl,⟨cK.1,by have:=cK.2;omega⟩,Lz _,Sl.bT _,H1.1.cT bJ (λb O h=>ad),bx⟩
 | true=>
  go_wp2_with(fail);refine(aY _ s A n c l 3 ag.1.src ad ad).mono ?_;rintro e aP ⟨cv,rfl,bm,bX,h,he⟩;have aS:=ag.2.2.2.on he.fr ad;have H1:=bA (ag.1.next h he.fr) (ag.2.1.on he.fr) (ag.2.2.1.trans he.fr) aS;clear a0 ak af h he aS ag;obtain⟨a0,ak,af⟩:=H1.1.blk.two;by_cases aj:cv=1
  .have q:(cv == 1)=true:=by simpa using aj
   clear aj bm bX;go_wp2_with(fail);refine(pA s A n c l V N bn aq cb 1 ad aP H1.1.src H1.2.1).mono ?_;rintro e aW ⟨x,cr,cd,cC,rfl,hx,aL,ce,h,he⟩;have aS:=H1.2.2.2.on he ad;have bZ:=ah h (H1.2.2.1.trans he);have aR:=cX hx aL ce he.size H1.2.2.1.size;exact BZ
  .have q:(cv == 1)=false:=by simpa using aj
   clear aj bm bX;go_wp2_with(fail);refine(aY _ s A n c l sz H1.1.src ac ad).mono ?_;rintro e aW ⟨bR,rfl,g,bg,h,he⟩;have aS:=H1.2.2.2.on he.fr ad;have bZ:=ah h (H1.2.2.1.trans he.fr);have cK:=ah g bg;obtain⟨e0,a6,aQ⟩:=aS.two;have bH:=ae aS;clear a0 ak af h he aS g bg;go_wp2_with(fail);generalize cq:World.setCell _ _ _=Y;obtain⟨bD,bx,bJ⟩:=ef (M:=λb=>b=s) [.int .i64 1,.int .i64 bR,.string ⟨#[]⟩,.slice none 0 0] (by rfl) bH.o bZ.2 (Lz _) cq;obtain⟨bp,aM,aV⟩:=bD.two;refine Mf (v:=.agg #[.int .i64 1,.int .i64 bR,.string ⟨#[]⟩,.slice none 0 0]) (by simp[results,Tryz.results139,go_sem,bp]) rfl ?_;exact⟨.num bR,none,0,0,rfl,⟨cK.1,by have:=cK.2;omega⟩,Lz _,Sl.bT _,bZ.1.cT bJ (λb O h=>ad),bx⟩
 ):p:=h
end CQ
open CQ in
theorem y5(p:kz)(left:Nat)(V:Ml)(N:Mk)(bn aq:Nat)(sz:Int)(ac:0<sz)(ax:sz<=3)(w:World)(h:gH w p left)(hN:nu w p.s V N bn)(cb:bn<=1000) :
  Calls prog 139 #[.pointer (some ⟨p.wb,0,none⟩),.slice N bn aq,.int .i64 sz] w (tR w p.s p.A p.n p.c p.l V 2):=by
 obtain⟨s,wb,A,n,c,l,GA,gn,gc,MA,mn,mc,FA,fn,fc,M,F,ar⟩:=p;have H:=ah h hN;have ap:=h.blk.lt;have b0:=h.src.lt;simp only at ap b0;clear h hN;go_enter func139,ntmps139;exact Bd
namespace CR
theorem dd(h:p:=by
 generalize cq:World.setCell _ _ _=Y;obtain⟨bD,bx,bJ⟩:=ef (M:=λb=>b=s) [.int .i64 x.a2,.int .i64 x.numOf,.string x.bt,.slice cr cd cC] (by rfl) bH.o bZ.2 (Lz _) cq;obtain⟨bp,aM,aV⟩:=bD.two;go_wp2_with(fail);refine Mf (v:=.agg #[.int .i64 x.a2,.int .i64 x.numOf,.string x.bt,.slice cr cd cC]) (by simp[results,Tryz.results118,go_sem,bp]) rfl ?_;obtain⟨hx,aL,ce,cg,bP⟩:=aR.o;have bi:x.src V 2:=by
  obtain rfl|rfl:k=0\/k=1:=ad
  .exact iU 1 x hx
  .exact hx
 exact⟨x,cr,cd,cC,rfl,bi,aL,(ce.ak λb O=>bJ.block b O.2 (aB O.1)).mono λb O=>⟨by have:=O.1;omega,LC O.2 bJ.size⟩,bZ.1.cT bJ (λb O h=>ad),bx⟩
 ):p:=h
theorem AX(h:p:=by
 refine Mf (v:=.agg #[.int .i64 x.a2,.int .i64 x.numOf,.string x.bt,.slice cr cd cC]) (by simp[results,Tryz.results118,go_sem,bp]) rfl ?_;obtain⟨hx,aL,ce,cg,bP⟩:=aR.o;exact⟨x,cr,cd,cC,rfl,iU 1 x (iU 0 x hx),aL,(ce.ak λb O=>bJ.block b O.2 (aB O.1)).mono λb O=>⟨by have:=O.1;omega,LC O.2 bJ.size⟩,bZ.1.cT bJ (λb O h=>ad),bx⟩
 ):p:=h
theorem Be(h:p:=by
 cases ar with
 | false=>
  go_wp2_with(fail);refine(pA s A n c l V N bn aq cb 0 ad W ag.1.src ag.2.1).mono ?_;rintro e aW ⟨x,cr,cd,cC,rfl,hx,aL,ce,h,he⟩;have aS:=ag.2.2.2.on he ad;have bZ:=ah h (ag.2.2.1.trans he);have aR:=cX hx aL ce he.size ag.2.2.2.lt
  exact BZ
 | true=>
  have cy:¬wb=s:=by have:=ag.1.ne;simp only at this;omega
  go_upto_region 3 with(fail);refine eK (λb=>b=s) [(0,3),(1,3),(2,3),(3,0),(4,3),(5,3),(6,3),(7,3),(8,0),(9,1),(10,3),(11,2),(12,2)] ?_
  iterate 3 refine pf ?_
  refine oG ?_
  iterate 4 refine pf ?_
  refine oG ?_;refine aI rfl (λK hK=>?_);go_simp;refine(aY W.drew s A n c l 2 (ag.1.aj Mg.drew).src ad ad).mono ?_;rintro e aP ⟨cv,rfl,bm,bX,h,he⟩;obtain⟨k,rfl⟩:=LH bm;have cK:k<2:=ad;have ai:Fr (λb=>b=s) W aP:=Fr.aF he.fr;have H1:=bA (ag.1.next h ai) (ag.2.1.on ai) (ag.2.2.1.trans ai) (ag.2.2.2.on ai ad);refine dP hK (he.fr) ?_;clear hK K;clear h he ai a0 ak af bm bX;refine pf ?_;refine au rfl (λK hK=>?_);go_simp;have b7:(1:Int)+(k:Int)=((k+1:Nat):Int):=ad;rw[b7,show IntKind.i64.wrap ((k+1:Nat):Int)=((k+1:Nat):Int) from IntWalk.i64_in _ ad];refine(pA s A n c l V N bn aq cb (k+1) ad aP H1.1.src H1.2.1).mono ?_;rintro e aW ⟨x,cr,cd,cC,rfl,hx,aL,ce,h,he⟩;have aS:=H1.2.2.2.on he ad;have bZ:=ah h (H1.2.2.1.trans he);have aR:=cX hx aL ce he.size H1.2.2.2.lt;obtain⟨e0,a6,aQ⟩:=aS.two;have bH:=ae aS;clear h he aS hx aL ce;refine dU hK ?_;clear hK K;exact eM
 ):p:=h
end CR
open CR in
theorem jW(p:kz)(left:Nat)(V:Ml)(N:Mk)(bn aq:Nat)(w:World)(h:gH w p left)(hN:nu w p.s V N bn)(cb:bn<=1000) :
  Calls prog 118 #[.pointer (some ⟨p.wb,0,none⟩),.slice N bn aq] w (tR w p.s p.A p.n p.c p.l V 2):=by
 obtain⟨s,wb,A,n,c,l,GA,gn,gc,MA,mn,mc,FA,fn,fc,M,F,ar⟩:=p;have H:=ah h hN;have ap:=h.blk.lt;have b0:=h.src.lt;simp only at ap b0;clear h hN;go_enter func118,ntmps118;exact Bd
def I5(w:World)(p:kz)(V:Ml)(ps:List (ByteArray×Bool))(e:Ending)(ab:World):Prop:=
 ∃(r:eW) (IA:Mk) (i ic:Nat),e=.returned (.agg #[.string r.name,.slice IA i ic])/\(∀fs,su ⟨p.M,ps,fs⟩ V r)/\i<=ic/\Sl ab (fresh w ab) IA i (r.idx.toList.map bk)/\cp ab p.s p.A p.n p.c p.l/\Fr (λb=>b=p.s) w ab
theorem tv{x:ByteArray×Bool}:(cz x).rep w P cs↔cs=[.string x.1,.bool x.2]:=by
 exact Hi
theorem uX{x:ByteArray}:(D.s x).rep w P cs↔cs=[.string x]:=by simp only[D.rep]
theorem rb(p:kz)(left:Nat)(V:Ml)(N:Mk)(bn aq:Nat)(bc:ByteArray)(ps:List (ByteArray×Bool))(QA:Mk)(b8 qc:Nat)(br:Value)(w:World)(h:gH w p left)(hN:nu w p.s V N bn)(cb:bn<=1000)
  (cl:Sl w (off (λb=>b=p.s) w) QA b8 (ps.map cz)) (bv:b8<=2) :
  Calls prog 117 #[.pointer (some ⟨p.wb,0,none⟩),.agg #[.string bc,.slice QA b8 qc,br],.slice N bn aq] w (I5 w p V ps):=by
 obtain⟨s,wb,A,n,c,l,GA,gn,gc,MA,mn,mc,FA,fn,fc,M,F,ar⟩:=p;have H:=aA h hN cl;have ap:=h.blk.lt;have b0:=h.src.lt;have R:=h.nm;have a4:M.length=mn:=by have:=h.ms.1;simpa using this
 simp only at ap b0 R;clear h hN cl;go_enter func117,ntmps117;go_wp2_with(fail);generalize bd:World.alloc _ _=W;have aF:=hi bd;have cn:=fx bd;have bV:=eX bd;have cS:W.heap.size=w.heap.size+1+1:=by rw[<-bd];simp
 have ag:=aA aF cn bV;clear bd aF cn bV;obtain⟨bQ,L⟩:∃bQ:Nat->List D,bQ=λj=>(M.take j).map λm=>D.s m.name:=⟨_,rfl⟩
 have bN:bQ 0=[]:=by rw[L];rfl
 have be:∀j m,M[j]?=some m->bQ (j+1)=bQ j++[.s m.name]:=λj m h=>by rw[L];simp only;rw[List.take_add_one,h];simp
 obtain⟨a2,aG,aa⟩:=eS L bN be;clear L bN be;go_loopw [7,8] (λhk cw wr=>∃(k:Nat) (cc:Mk) (rc:Nat),k<=mn/\cw=.int .i64 k/\hk=.slice cc k rc/\Ext W wr/\Gr (λ_=>False) (w.heap.size+1+1) 9 1 wr cc k rc (bQ k)) (λ_ cw _=>mn - (intOf cw).toNat)
 case atStart=>exact⟨0,none,0,L3 _,rfl,rfl,Mg,by rw[aG.o];exact Gr.nil _ _ _ _ _⟩
 case round=>
  obtain⟨k,cc,rc,aj,rfl,rfl,aF,hG⟩:=hrel;obtain⟨bj,I⟩:=aH aF hG;have J:=H.1.aj (ag.1.trans aF);obtain⟨a0,ak,af⟩:=J.blk.two;by_cases b3:k<mn
  .obtain⟨b,o,m,cs,aL,O,hm,a9,bq,hc⟩:=Sl.g9 (z:=3) J.ms (λ_=>rfl) b3;simp only at aL;subst aL;obtain rfl:=fq.1 a9;have c0:=hc 0 _ rfl;simp only[LM] at c0;have eV:=ae hm;have bm:(0:Int)<=(k:Int):=ad;have b7:(k:Int)<(mn:Int):=ad;have ci:w.heap.size+1+1<=wr.heap.size:=by have:=aF.size;omega
   clear aF hG J a9 hc bq hm;go_wp2_with((at_builtin;refine bI kE rfl (.tmp 23) (.tmp 33) rfl I.o (uX.2 rfl) rfl rfl rfl ad ad ci ?_;intro a1 c2 aW an ay b1 cf;have ca:=ah an ay;clear an ay b1 cf));have aT:Ext W aW:=bj.eU (ca.2.below bj.size λj bi O=>by have:=(I.lt O).1;omega);have a7:=ae aT;clear aT;go_roundw
   case rel=>exact⟨k+1,a1,c2,ad,by go_num,rfl,a7.o,by rw[aa.o k m eV.o];exact ca.1⟩
   case measure=>exact aE
  .obtain rfl:k=mn:=ad;have bK:Gr (λ_=>False) (w.heap.size+1+1) 9 1 wr cc k rc ((M.map (·.name)).map D.s):=by
    have:=I.o;rw[a2.o] at this;simp only at this;rw[LK ad] at this;rw[List.map_map];exact this
   have bE:=ae bK;clear aF hG J I bK a2 aG aa;go_wp2_with(fail);go_loopw [7,10] (λhk cw wr=>∃(j:Nat) (cc:Mk) (rc:Nat) (a6:Ml),j<=b8/\cw=.int .i64 j/\hk=.slice cc (k+a6.length) rc/\a6.length<=2*j/\(∀x∈a6,(x,true)∈ps)/\Ext W wr/\Gr (λ_=>False) (w.heap.size+1+1) 9 1 wr cc (k+a6.length) rc ((M.map (·.name)++a6).map D.s)) (λ_ cw _=>b8 - (intOf cw).toNat)
   case atStart=>exact⟨0,cc,rc,[],L3 _,rfl,rfl,by simp,(λx hx=>by cases hx),bj.o,by rw[L6];exact bE.o⟩
   case round=>
    obtain⟨j,cc,rc,a6,bi,rfl,rfl,c3,az,aF,hG⟩:=hrel;clear bE bj;obtain⟨bj,I,ab⟩:=eS aF hG az;have ci:w.heap.size+1+1<=wr.heap.size:=by have:=aF.size;omega
    by_cases b3:j<b8
    .obtain⟨d0,aK,aO⟩:=(ag.2.1.aj aF).two;obtain⟨b,o,q,cs,bT,O,hm,a9,bq,hc⟩:=Sl.g9 (z:=2) (Sl.cS H.2.2 ((ag.1.trans aF).mono (M':=λb=>b=s) λ_ h=>h.elim)) (λ_=>rfl) b3;subst bT;obtain rfl:=tv.1 a9;have c0:=hc 0 _ rfl;have c1:=hc 1 _ rfl;simp only[LM] at c0;have eV:=ae hm;have T:=O.1;have cI:(0:Int)<=(j:Int):=ad;have fm:(j:Int)<(b8:Int):=ad;clear aF hG a9 hc bq hm az O;obtain⟨q1,cO⟩:=q
     cases cO with
     | false=>
      go_wp2_with(fail);go_roundw
      case rel=>exact⟨j+1,cc,rc,a6,ad,by go_num,rfl,ad,ab.o,bj.o,I.o⟩
      case measure=>exact aE
     | true=>
      go_upto_region 11 with(fail);refine eK (λ_=>False) [(0,3),(1,3),(2,0),(3,3),(4,3),(5,3),(6,0),(7,3),(8,0),(9,3),(10,3),(11,3),(12,0),(13,2),(14,2),(15,3)] ?_
      iterate 2 refine pf ?_
      refine ph ?_
      iterate 3 refine pf ?_
      refine ph ?_;refine pf ?_;refine ph ?_
      iterate 3 refine pf ?_
      refine ph ?_;refine au rfl (λK hK=>?_);go_simp;refine dU hK ?_;clear hK K;generalize bG:World.drew (World.alloc _ _)=Z;have ba:=hh bG;have bt:=lP bG;have aw:Src Z 1 (some ⟨wr.heap.size,0,none⟩) 2 [.string q1,.string q1]:=⟨rfl,λu hu=>by
       simp only[LS,List.not_mem_nil,or_false] at hu;rcases hu with rfl|rfl<;>rfl,λ_=>⟨_,0,rfl,λj u bi=>by rw[LW,bt.cell];simpa using bi⟩⟩
      have dx:=I.aj ba;have bM:=ba.size;clear bG d0 aK aO c0 c1;refine au rfl (λK hK=>?_);rw[if_pos (by rfl)];refine xy kE (.tmp 50) (.tmp 63) (by rfl) dx (m:=2) (k:=[D.s q1,D.s q1]) (ct.2 ⟨_,rfl,ct.2 ⟨_,rfl,aQ.2 rfl⟩⟩) rfl aw (λh=>by cases h) (by rfl) (by rfl) ad ad ad ?_;intro a1 c2 aW an ay b1 cf;have aT:Ext W aW:=(bj.trans ba).eU (ay.below (aB bj.size) λi al O=>by have:=(I.lt O).1;omega);have ca:=ah an aT;clear an ay b1 cf aT dx ba bt aw;refine dU hK ?_;clear hK K;refine pf ?_;refine aC ?_;go_wp2_with(fail);go_roundw
      case rel=>
       refine⟨j+1,a1,c2,a6++[q1,q1],ad,by go_num,by simp[Nat.add_assoc],by simp;omega,?_,ca.2,?_⟩
       .intro x hx;rcases LL.1 hx with hx|hx
        .exact ab.o x hx
        .simp at hx;subst hx;exact LF eV.o
       .have:=ca.1;rw[<-List.append_assoc,LJ,LD];exact this
      case measure=>exact aE
    .obtain rfl:j=b8:=ad;have J:=H.1.aj (ag.1.trans aF);obtain⟨a0,ak,af⟩:=J.blk.two;obtain⟨d0,aK,aO⟩:=(ag.2.1.aj aF).two;have b9:1<=k+a6.length/\k+a6.length<=8:=ad;have bw:=ae J;clear aF hG az J;go_wp2_with(fail);refine(aY wr s A n c l ((k+a6.length:Nat):Int) bw.src ad ad).mono ?_;rintro e aP ⟨cR,rfl,S,aD,h,he⟩;obtain⟨i3,rfl⟩:=LH S;have e1:i3<k+a6.length:=ad;have cj:s<w.heap.size:=b0;have bu:=bw.next h he.fr;have aU:Fr (λb=>b=s) w aP:=((ag.1.trans bj.o).mono λ_ h=>h.elim).trans he.fr;have r:=I.cS he.fr (λb O _=>⟨λh=>h,ad⟩);have bV:=(ag.2.2.aj bj.o).on he.fr (λh=>ad);have H1:=bA bu aU r bV;have aR:Sl aP (av aP) cc (k+a6.length) ((M.map (·.name)++a6).map D.s):=r.sl (λ_ _ h=>h.elim) (λ_ h _=>h);obtain⟨b,o,x,cs,bW,O,hm,a9,bq,hc⟩:=Sl.g9 (z:=1) aR (λ_=>rfl) e1;subst bW;obtain rfl:=uX.1 a9;have c0:=hc 0 _ rfl;simp only[Nat.mul_one,LM] at c0;have eV:=ae hm;have b2:(0:Int)<=(i3:Int):=ad;have b5:(i3:Int)<((k+a6.length:Nat):Int):=ad;clear h he bu aU r aR a9 hc bq hm a0 ak af d0 aK aO bw S aD bV;go_upto_region 14 with(fail);generalize hX:World.alloc _ _=X;have bz:=aZ hX;have co:=aN hX;have b6:w.heap.size+1+1<=aP.heap.size:=by have:=H1.2.2.2.lt;omega
     have bZ:=cX (H1.1.aj bz) (H1.2.1.trans (bz.mono λ_ h=>h.elim)) (H1.2.2.2.aj bz) co (H.2.1.on (H1.2.1.trans (bz.mono λ_ h=>h.elim)));clear hX bz co H1 c0;obtain⟨a0,ak,af⟩:=bZ.1.blk.two;obtain⟨a8,am,aJ⟩:=bZ.2.2.1.two;obtain⟨d0,aK,aO⟩:=bZ.2.2.2.1.two;have cy:¬wb=s:=by have:=bZ.1.ne;simp only at this;omega
     by_cases bP:i3<k
     .obtain⟨hr,bs,m,cs,aL,cd,P,a9,bq,hc⟩:=Sl.g9 (z:=3) bZ.1.ms (λ_=>rfl) bP;simp only at aL;subst aL;obtain rfl:=fq.1 a9;have c2:=hc 2 _ rfl;have aI:x=m.name:=by
       have:=eV.o;rw[List.getElem?_append_left (by simp;omega),List.getElem?_map,P] at this;injection this with this;exact this.symm
      have bC:m∈M:=LF P;have bg:=bZ.1.gO m bC;have a3:=ah aI bC;have bR:(i3:Int)<(k:Int):=ad;clear a9 hc bq P aI bC cd;by_cases U:0<m.size
      .go_wp2_with(fail);refine(y5 ⟨s,wb,A,n,c,l,GA,gn,gc,_,k,mc,FA,fn,fc,M,F,ar⟩ left V N bn aq m.size U bg.2 X bZ.1 bZ.2.2.2.2 cb).mono ?_;rintro e b4 ⟨y,cY,c5,c6,rfl,bb,bO,bl,aw,ai⟩;simp only at aw ai;have bU:=bZ.2.2.1.on ai ad;have cC:=bZ.2.2.2.1.on ai ad;have a5:=bZ.2.1.trans ai;have cg:=ai.size;clear a0 ak af a8 am aJ d0 aK aO c2;obtain⟨a8,am,aJ⟩:=bU.two;obtain⟨d0,aK,aO⟩:=cC.two;have bF:=hj bb bO bl aw a5 bU cC;clear bb bO bl aw a5 ai bU cC;go_upto_region 16 with(fail);generalize bG:World.setCell _ _ _=Z;have bM:Z.heap.size=b4.heap.size:=by rw[<-bG];simp
       generalize hQ:World.alloc _ _=Q;have bf:=cJ bG;have ax:=aZ hQ;have aS:ao Q b4.heap.size 56 #[.int .i64 y.a2,.int .i64 y.numOf,.string y.bt,.slice cY c5 c6]:=hQ▸ao.gA _ _ _ bM.symm;have bL:ao Q aP.heap.size 185 #[.string x,.slice (some ⟨b4.heap.size,0,none⟩) 1 1]:=by
        have ac:ao Z aP.heap.size 185 #[.string x,.slice (some ⟨b4.heap.size,0,none⟩) 1 1]:=bG▸bF.2.2.2.2.2.2.aJ 1 _;exact ac.aj ax
       have bB:=((bF.2.2.2.2.2.1.on bf ad).aj ax)
       have bH:Fr (λb=>b=s) w Q:=(bF.2.2.2.2.1.eU (bf.below bF.2.2.2.2.1.size λi al h=>ad)).trans (ax.mono λ_ h=>h.elim);have bh:cp Q s A n c l:=(bF.2.2.2.1.cT bf λb O h=>ad).cT ax λ_ _ h=>h;have dJ:aP.heap.size<X.heap.size:=bZ.2.2.2.1.lt;have bo:Sl Q (fresh X Q) cY c5 (y.args.map bk):=(bF.2.2.1.ak λb O=>(ax.block b (aB O.2) λh=>h).trans (bf.block b O.2 (aB O.1))).mono λb O=>⟨O.1,by have:=O.2;have:=ax.size;omega⟩
       have bS:=cX aS bB bH bh bo;have ce:=aS.lt;clear a8 am aJ d0 aK aO;obtain⟨a8,am,aJ⟩:=bB.two;obtain⟨d0,aK,aO⟩:=bL.two;clear bG hQ bf ax aS bL bB bH bh bo;go_wp2_with(fail);generalize cq:World.setCell _ _ _=Y;obtain⟨bD,bx,bJ⟩:=ef (M:=λb=>b=s) [.string x,.slice (some ⟨b4.heap.size,0,none⟩) 1 1] (by rfl) bS.2.1 bS.2.2.1 ad cq;obtain⟨bp,aM,aV⟩:=bD.two;refine Mf (v:=.agg #[.string x,.slice (some ⟨b4.heap.size,0,none⟩) 1 1]) (by simp[results,Tryz.results117,go_sem,bp]) rfl ?_;obtain⟨aS,_,_,bh,bo⟩:=bS.o;have bY:Sl Y (fresh w Y) cY c5 (y.args.map bk):=(bo.ak λb O=>bJ.block b O.2 (aB O.1)).mono λb O=>⟨by have:=O.1;omega,LC O.2 bJ.size⟩
       refine⟨⟨x,some y⟩,some ⟨b4.heap.size,0,none⟩,1,1,rfl,λfs=>.inl ⟨m,a3.2,a3.1.symm,λ_=>⟨y,rfl,bF.1⟩,λh=>absurd U h⟩,Lz _,?_,bh.cT bJ (λb O h=>ad),bx⟩;exact Sl.nP (aS.on bJ ad) (D.bw.2 (aX.2 ⟨cY,c5,c6,rfl,bF.2.1,bY⟩)) ⟨ad,by have:=bJ.size;omega⟩ rfl
      .go_wp2_with(fail);generalize cq:World.setCell _ _ _=Y;obtain⟨bD,bx,bJ⟩:=ef (M:=λb=>b=s) [.string x,.slice none 0 0] (by rfl) bZ.2.2.1 bZ.2.1 ad cq;obtain⟨bp,aM,aV⟩:=bD.two;refine Mf (v:=.agg #[.string x,.slice none 0 0]) (by simp[results,Tryz.results117,go_sem,bp]) rfl ?_;exact⟨⟨x,none⟩,none,0,0,rfl,λfs=>.inl ⟨m,a3.2,a3.1.symm,λh=>absurd h ad,λ_=>rfl⟩,Lz _,Sl.bT _,bZ.1.src.cT bJ (λb O h=>by simp only at O;omega),bx⟩
     .have bR:¬(i3:Int)<(k:Int):=ad;go_wp2_with(fail);generalize cq:World.setCell _ _ _=Y;obtain⟨bD,bx,bJ⟩:=ef (M:=λb=>b=s) [.string x,.slice none 0 0] (by rfl) bZ.2.2.1 bZ.2.1 ad cq;obtain⟨bp,aM,aV⟩:=bD.two;refine Mf (v:=.agg #[.string x,.slice none 0 0]) (by simp[results,Tryz.results117,go_sem,bp]) rfl ?_;have bX:x∈a6:=by
       have:=eV.o;rw[List.getElem?_append_right (by simp;omega)] at this;exact LF this
      exact⟨⟨x,none⟩,none,0,0,rfl,λfs=>.inr ⟨ab.o x bX,rfl⟩,Lz _,Sl.bT _,bZ.1.src.cT bJ (λb O h=>by simp only at O;omega),bx⟩
theorem sQ:cm prog 186 213 (.agg #[.bool false,.string ⟨#[]⟩,.slice none 0 0,.int .i64 0,.int .i64 0,.string ⟨#[]⟩,.slice none 0 0]) 7 104:=cm.mk' Tryz.underlying186 (by kernel_rfl) rfl ad
theorem yn{r:eW}{IA:Mk}{i ic:Nat}(h:Sl w P IA i (r.idx.toList.map bk))(hc:i<=ic):(eO (.mx r)).rep w P [.bool true,.string r.name,.slice IA i ic,.int .i64 0,.int .i64 0,.string ⟨#[]⟩,.slice none 0 0]:=by
 unfold eO;rw[bJ];exact fB.2 ⟨_,rfl,g0.2 ⟨[.string r.name,.slice IA i ic],_,rfl,jH.2 ⟨IA,i,ic,rfl,hc,h⟩,D.bw.2 (fv.2 ⟨none,0,rfl⟩)⟩⟩
theorem Gt{x:VE}{cr:Mk}{cd cC:Nat}(h:Sl w P cr cd (x.args.map bk))(hc:cd<=cC):(eO (.ex x)).rep w P [.bool false,.string ⟨#[]⟩,.slice none 0 0,.int .i64 x.a2,.int .i64 x.numOf,.string x.bt,.slice cr cd cC]:=by
 unfold eO;rw[bJ];refine fB.2 ⟨_,rfl,g0.2 ⟨[.string ⟨#[]⟩,.slice none 0 0],_,rfl,?_,D.bw.2 (aX.2 ⟨cr,cd,cC,rfl,hc,h⟩)⟩⟩;exact zY
theorem od{G:Env}{V:Ml}{q:ByteArray×Bool}{a:dj}:∀(ps:List (ByteArray×Bool)) (aT:List dj),iX G V ps aT->JQ G V q a->iX G V (ps++[q]) (aT++[a])
 | [],[],_,h=>⟨h,trivial⟩
 | _::ps,_::aT,h,ax=>⟨h.1,od ps aT h.2 ax⟩
 | [],_::_,h,_=>h.elim
 | _::_,[],h,_=>h.elim
def IU(w:World)(p:kz)(V:Ml)(ps gs:List (ByteArray×Bool))(e:Ending)(ab:World):Prop:=
 ∃(aT:List dj) (KA:Mk) (k kc:Nat),e=.returned (.slice KA k kc)/\(∀fs,iX ⟨p.M,ps,fs⟩ V gs aT)/\k<=kc/\Sl ab (fresh w ab) KA k (aT.map eO)/\cp ab p.s p.A p.n p.c p.l/\Fr (λb=>b=p.s) w ab
theorem zA(p:kz)(left:Nat)(V:Ml)(N:Mk)(bn aq:Nat)(bc:ByteArray)(ps:List (ByteArray×Bool))(QA:Mk)(b8 qc:Nat)(br:Value)(m:ByteArray)(gs:List (ByteArray×Bool))(bE:Mk)(bK bw:Nat)(u:Value)(w:World)(h:gH w p left)(hN:nu w p.s V N bn)(cb:bn<=1000)
  (cl:Sl w (off (λb=>b=p.s) w) QA b8 (ps.map cz)) (bv:b8<=2) (bF:Sl w (off (λb=>b=p.s) w) bE bK (gs.map cz)) (cW:bK<=2) :
  Calls prog 119 #[.pointer (some ⟨p.wb,0,none⟩),.agg #[.string bc,.slice QA b8 qc,br],.agg #[.string m,.slice bE bK bw,u],.slice N bn aq] w (IU w p V ps gs):=by
 obtain⟨s,wb,A,n,c,l,GA,gn,gc,MA,mn,mc,FA,fn,fc,M,F,ar⟩:=p;have ap:=h.blk.lt;have b0:=h.src.lt;have cu:gs.length=bK:=by have:=bF.1;simpa using this
 simp only at ap b0;have H:=bA h hN cl bF;clear h hN cl bF;go_enter func119,ntmps119;go_wp2_with(fail);generalize bd:World.alloc _ _=W;have aF:=hi bd;have cn:=fx bd;have bV:=eX bd;have cS:W.heap.size=w.heap.size+1+1:=by rw[<-bd];simp
 have ag:=bA (H.1.aj aF) (aF.mono (M':=λb=>b=s) λ_ h=>h.elim) cn bV;clear bd aF cn bV;go_loopw [9,10] (λQ cw wr=>∃(j:Nat) (cc:Mk) (rc:Nat) (aT:List dj),j<=bK/\cw=.int .i64 j/\Q=.slice cc j rc/\(∀fs,iX ⟨M,ps,fs⟩ V (gs.take j) aT)/\gH wr ⟨s,wb,A,n,c,l,GA,gn,gc,MA,mn,mc,FA,fn,fc,M,F,ar⟩ left/\Fr (λb=>b=s) w wr/\ao wr w.heap.size 137 #[.string bc,.slice QA b8 qc,br]/\ao wr (w.heap.size+1) 137 #[.string m,.slice bE bK bw,u]/\
  Gr (λb=>w.heap.size<=b) (w.heap.size+1+1) 213 7 wr cc j rc (aT.map eO)) (λ_ cw _=>bK - (intOf cw).toNat)
 case atStart=>exact⟨0,none,0,[],L3 _,rfl,rfl,λfs=>trivial,ag.1,ag.2.1,ag.2.2.1,ag.2.2.2,Gr.nil _ _ _ _ _⟩
 case round=>
  obtain⟨j,cc,rc,aT,bi,rfl,rfl,aG,J,hF,bX,bg,hG⟩:=hrel;clear ag;have a2:=cX J hF bX bg hG;have au:=ae aG;obtain⟨d0,aK,aO⟩:=bg.two;obtain⟨e0,a6,aQ⟩:=bX.two;by_cases b3:j<bK
  .obtain⟨b,o,q,cs,eG,O,hm,a9,bq,hc⟩:=Sl.g9 (z:=2) (Sl.cS H.2.2.2 hF) (λ_=>rfl) b3;subst eG;obtain rfl:=tv.1 a9;have c1:=hc 1 _ rfl;have eV:=ae hm;have cI:(0:Int)<=(j:Int):=ad;have fm:(j:Int)<(bK:Int):=ad;have ns:=hF.size;clear a9 hc bq hm O J hF bX bg hG aG;obtain⟨q1,cO⟩:=q;simp only at c1
   cases cO with
   | true=>
    go_wp2_with(fail);refine(rb ⟨s,wb,A,n,c,l,GA,gn,gc,MA,mn,mc,FA,fn,fc,M,F,ar⟩ left V N bn aq bc ps QA b8 qc br wr a2.1 (H.2.1.on a2.2.1) cb (Sl.cS H.2.2.1 a2.2.1) bv).mono ?_;rintro e aW ⟨r,IA,i,ic,rfl,aU,aL,R,aw,ai⟩;simp only at aU aw ai;have bk:=a2.2.2.2.2.cS ai (λb O _=>⟨ad,ad⟩);have hd:(eO (.mx r)).rep aW (ly (λb=>w.heap.size<=b) aW (.slice cc j rc)) [.bool true,.string r.name,.slice IA i ic,.int .i64 0,.int .i64 0,.string ⟨#[]⟩,.slice none 0 0]:=
     yn (R.mono λb O=>⟨by have:=O.1;omega,O.2,λh=>by have:=(a2.2.2.2.2.lt h).2;have:=O.1;omega⟩) aL
    have bZ:=dI (a2.1.next aw ai) (a2.2.1.trans ai) (a2.2.2.1.on ai ad) (a2.2.2.2.1.on ai ad) bk hd;have g:=ae aU;have ci:w.heap.size+1+1<=aW.heap.size:=by have:=ai.size;omega
    clear d0 aK aO e0 a6 aQ c1 bk hd ai aw R aL aU a2;go_wp2_with((at_builtin;refine bI sQ rfl (.tmp 24) (.tmp 30) rfl bZ.2.2.2.2.1 bZ.2.2.2.2.2 rfl rfl rfl ad ad ci ?_;intro a1 c2 b4 an ay b1 cf;have ca:=ah an ay;clear an ay b1 cf));have bm:∀b,(Value.slice cc j rc).ownBlock=some b->w.heap.size+1+1<=b:=λb O=>(bZ.2.2.2.2.1.lt O).1;have a3:Fr (λb=>b=s) w b4:=bZ.2.1.eU (ca.2.below bZ.2.1.size λk aj h=>by have:=bm k h;omega);have cR:gH b4 ⟨s,wb,A,n,c,l,GA,gn,gc,MA,mn,mc,FA,fn,fc,M,F,ar⟩ left:=(H.1).next (bZ.1.src.cT ca.2 λb O h=>by have:=bm b h;simp only at O;omega) a3;have bT:=cX cR a3 (bZ.2.2.1.on ca.2 (λh=>by have:=bm _ h;omega)) (bZ.2.2.2.1.on ca.2 (λh=>by have:=bm _ h;omega)) ca.1;clear bm a3 cR;go_roundw
    case rel=>
     refine⟨j+1,a1,c2,aT++[.mx r],ad,by go_num,rfl,λfs=>?_,bT.1,bT.2.1,bT.2.2.1,bT.2.2.2.1,by rw[LJ];exact bT.2.2.2.2⟩;rw[List.take_add_one,eV.o];exact od _ _ (au.o fs) ⟨rfl,g.o fs⟩
    case measure=>exact aE
   | false=>
    go_wp2_with(fail);refine(jW ⟨s,wb,A,n,c,l,GA,gn,gc,MA,mn,mc,FA,fn,fc,M,F,ar⟩ left V N bn aq wr a2.1 (H.2.1.on a2.2.1) cb).mono ?_;rintro e aW ⟨x,cr,cd,cC,rfl,aU,aL,R,aw,ai⟩;simp only at aw ai;have bk:=a2.2.2.2.2.cS ai (λb O _=>⟨ad,ad⟩);have hd:(eO (.ex x)).rep aW (ly (λb=>w.heap.size<=b) aW (.slice cc j rc)) [.bool false,.string ⟨#[]⟩,.slice none 0 0,.int .i64 x.a2,.int .i64 x.numOf,.string x.bt,.slice cr cd cC]:=
     Gt (R.mono λb O=>⟨by have:=O.1;omega,O.2,λh=>by have:=(a2.2.2.2.2.lt h).2;have:=O.1;omega⟩) aL
    have bZ:=dI (a2.1.next aw ai) (a2.2.1.trans ai) (a2.2.2.1.on ai ad) (a2.2.2.2.1.on ai ad) bk hd;have g:=ae aU;have ci:w.heap.size+1+1<=aW.heap.size:=by have:=ai.size;omega
    clear d0 aK aO e0 a6 aQ c1 bk hd ai aw R aL aU a2;go_wp2_with((at_builtin;refine bI sQ rfl (.tmp 32) (.tmp 37) rfl bZ.2.2.2.2.1 bZ.2.2.2.2.2 rfl rfl rfl ad ad ci ?_;intro a1 c2 b4 an ay b1 cf;have ca:=ah an ay;clear an ay b1 cf));have bm:∀b,(Value.slice cc j rc).ownBlock=some b->w.heap.size+1+1<=b:=λb O=>(bZ.2.2.2.2.1.lt O).1;have a3:Fr (λb=>b=s) w b4:=bZ.2.1.eU (ca.2.below bZ.2.1.size λk aj h=>by have:=bm k h;omega);have cR:gH b4 ⟨s,wb,A,n,c,l,GA,gn,gc,MA,mn,mc,FA,fn,fc,M,F,ar⟩ left:=(H.1).next (bZ.1.src.cT ca.2 λb O h=>by have:=bm b h;simp only at O;omega) a3;have bT:=cX cR a3 (bZ.2.2.1.on ca.2 (λh=>by have:=bm _ h;omega)) (bZ.2.2.2.1.on ca.2 (λh=>by have:=bm _ h;omega)) ca.1;clear bm a3 cR;go_roundw
    case rel=>
     refine⟨j+1,a1,c2,aT++[.ex x],ad,by go_num,rfl,λfs=>?_,bT.1,bT.2.1,bT.2.2.1,bT.2.2.2.1,by rw[LJ];exact bT.2.2.2.2⟩;rw[List.take_add_one,eV.o];exact od _ _ (au.o fs) ⟨rfl,g.o⟩
    case measure=>exact aE
  .obtain rfl:j=bK:=ad;clear J hF bX bg hG aG;go_wp2_with(fail);go_ret;have ac:=au.o;rw[LK ad] at ac;exact⟨aT,cc,j,rc,rfl,ac,a2.2.2.2.2.cap.1,a2.2.2.2.2.sl (λb h hp=>⟨hp,h⟩) (λb h hp=>⟨ad,h⟩),a2.1.src,a2.2.1⟩
end Go.Proofs.YtflecliffjbleaaGreat
