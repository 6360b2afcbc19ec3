/- Part 33 of the proof. No condition of its own. -/
import Derived.Test.YtflecliffjbleaaGreatQ14
import Derived.Test.YtflecliffjbleaaGreatQ32
namespace Go.Proofs.YtflecliffjbleaaGreat
open Go.RowKit Go.Proofs.Tryz
set_option maxRecDepth 1000000
set_option maxHeartbeats 25600000
set_option linter.unusedVariables false
variable{cs:List Value}{left:Nat}{P:Nat->Prop}{p:Prop}{ac w:World}
structure ks where
 s:Nat
 wb:Nat
 A:Option Addr
 n:Nat
 c:Nat
 l:List Int
 GA:Option Addr
 gn:Nat
 gc:Nat
 MA:Option Addr
 mn:Nat
 mc:Nat
 FA:Option Addr
 fn:Nat
 fc:Nat
 M:List bF
 F:List aA
 ar:Bool
abbrev ks.MW(p:ks):Nat->Prop:=λb=>b=p.s\/b=p.wb
structure gq(w:World)(p:ks)(left:Nat):Prop where
 src:cc w p.s p.A p.n p.c p.l
 blk:an w p.wb 169 #[.pointer (some ⟨p.s,0,none⟩),.slice p.GA p.gn p.gc,.slice p.MA p.mn p.mc,.slice p.FA p.fn p.fc,.int .i64 left,.bool p.ar]
 ne:p.s<p.wb
 ms:Sl w (off p.MW w) p.MA p.mn (p.M.map ek)
 fs:Sl w (off p.MW w) p.FA p.fn (p.F.map dr)
 nm:1<=p.mn/\p.mn<=4
 nf:1<=p.fn/\p.fn<=4
 gy:∀m∈p.M,0<=m.size/\m.size<=3
 iT:∀f∈p.F,f.params.length<=2
 kP:left<=24
theorem gq.next{p:ks}(h:gq w p left)(hs:cc ac p.s p.A p.n p.c p.l)(O:Fr (λb=>b=p.s) w ac):gq ac p left:=
 ⟨hs,h.blk.on O (aC h.ne),h.ne,Sl.cS h.ms (O.mono λ_ h=>.inl h),Sl.cS h.fs (O.mono λ_ h=>.inl h),h.nm,h.nf,h.gy,h.iT,h.kP⟩
theorem gq.aj{p:ks}(h:gq w p left)(O:Ext w ac):gq ac p left:=h.next (h.src.cM O λ_ _ h=>h) (O.mono λ_ h=>h.elim)
theorem ns.aj{s:Nat}{V:LQ}{I:LP}{bl:Nat}(h:ns w s V I bl)(O:Ext w ac):ns ac s V I bl:=h.on (O.mono λ_ h=>h.elim)
theorem iJ{V:LQ}:∀(d:Nat) (x:VE),x.src V d->x.src V (d+1)
 | d,.num _,h=>by cases d<;>exact h
 | d,.gT _,h=>by cases d<;>exact h
 | d,.loc _,h=>by cases d<;>exact h.elim
 | d,.iz _,h=>by cases d<;>exact h.elim
 | 0,.un _ _,h=>h.elim
 | 0,.bin _ _ _,h=>h.elim
 | d+1,.un _ x,h=>⟨h.1,iJ d x h.2⟩
 | d+1,.bin _ x y,h=>⟨h.1,iJ d x h.2.1,iJ d y h.2.2⟩
namespace B1
theorem At(h:p:=by
 refine LK (v:=.agg #[.int .i64 x.aZ,.int .i64 x.numOf,.string x.bk,.slice cu cr cD]) (by simp[results,Tryz.results139,go_sem,bE]) rfl ?_;obtain⟨hx,aF,bX,b6,bv⟩:=aR.o;have bL:=H1.2.2.2.lt;exact⟨x,cu,cr,cD,rfl,iJ 1 x hx,aF,(bX.ai λb O=>bj.block b O.2 (aC O.1)).mono λb O=>⟨by have:=O.1;omega,Lc O.2 bj.size⟩,bt.1.cM bj (λb O h=>ab),bA⟩
 ):p:=h
theorem AG(h:p:=by
 cases ar with
 | false=>
  go_wp2_with(fail);refine(aX _ s A n c l sz aH.1.src ae ab).mono ?_;rintro e aP ⟨cd,rfl,a2,bL,h,he⟩;have aN:=aH.2.2.2.on he.fr ab;have H1:=ah h (aH.2.2.1.trans he.fr);have co:=ah a2 bL;obtain⟨e0,bk,a5⟩:=aN.two;have bx:=ad aN;clear a0 ap aj h he aN a2 bL;go_wp2_with(fail);generalize b7:World.setCell _ _ _=Y;obtain⟨bz,bA,bj⟩:=dR (M:=λb=>b=s) [.int .i64 1,.int .i64 cd,.string ⟨#[]⟩,.slice none 0 0] (by rfl) bx.o H1.2 (Lb _) b7;obtain⟨bE,bg,bh⟩:=bz.two;refine LK (v:=.agg #[.int .i64 1,.int .i64 cd,.string ⟨#[]⟩,.slice none 0 0]) (by simp[results,Tryz.results139,go_sem,bE]) rfl ?_
  exact⟨.num cd,none,0,0,rfl,⟨co.1,by have:=co.2;omega⟩,Lb _,Sl.bN _,H1.1.cM bj (λb O h=>ab),bA⟩
 | true=>
  go_wp2_with(fail);refine(aX _ s A n c l 3 aH.1.src ab ab).mono ?_;rintro e aP ⟨cd,rfl,a2,bL,h,he⟩;have aN:=aH.2.2.2.on he.fr ab;have H1:=bG (aH.1.next h he.fr) (aH.2.1.on he.fr) (aH.2.2.1.trans he.fr) aN;clear a0 ap aj h he aN aH;obtain⟨a0,ap,aj⟩:=H1.1.blk.two;by_cases ai:cd=1
  .have q:(cd == 1)=true:=by simpa using ai
   clear ai a2 bL;go_wp2_with(fail);refine(pk s A n c l V I bl aa bB 1 ab aP H1.1.src H1.2.1).mono ?_;rintro e aV ⟨x,cu,cr,cD,rfl,hx,aF,bX,h,he⟩;have aN:=H1.2.2.2.on he ab;have bt:=ah h (H1.2.2.1.trans he);have aR:=dq hx aF bX he.size H1.2.2.1.size;exact Bf
  .have q:(cd == 1)=false:=by simpa using ai
   clear ai a2 bL;go_wp2_with(fail);refine(aX _ s A n c l sz H1.1.src ae ab).mono ?_;rintro e aV ⟨bJ,rfl,g,a9,h,he⟩;have aN:=H1.2.2.2.on he.fr ab;have bt:=ah h (H1.2.2.1.trans he.fr);have co:=ah g a9;obtain⟨e0,bk,a5⟩:=aN.two;have bx:=ad aN;clear a0 ap aj h he aN g a9;go_wp2_with(fail);generalize b7:World.setCell _ _ _=Y;obtain⟨bz,bA,bj⟩:=dR (M:=λb=>b=s) [.int .i64 1,.int .i64 bJ,.string ⟨#[]⟩,.slice none 0 0] (by rfl) bx.o bt.2 (Lb _) b7;obtain⟨bE,bg,bh⟩:=bz.two;refine LK (v:=.agg #[.int .i64 1,.int .i64 bJ,.string ⟨#[]⟩,.slice none 0 0]) (by simp[results,Tryz.results139,go_sem,bE]) rfl ?_;exact⟨.num bJ,none,0,0,rfl,⟨co.1,by have:=co.2;omega⟩,Lb _,Sl.bN _,bt.1.cM bj (λb O h=>ab),bA⟩
 ):p:=h
end B1
open B1 in
theorem yN(p:ks)(left:Nat)(V:LQ)(I:LP)(bl aa:Nat)(sz:Int)(ae:0<sz)(aD:sz<=3)(w:World)(h:gq w p left)(hN:ns w p.s V I bl)(bB:bl<=1000) :
  Calls prog 139 #[.pointer (some ⟨p.wb,0,none⟩),.slice I bl aa,.int .i64 sz] w (tJ w p.s p.A p.n p.c p.l V 2):=by
 obtain⟨s,wb,A,n,c,l,GA,gn,gc,MA,mn,mc,FA,fn,fc,M,F,ar⟩:=p;have H:=ah h hN;have aw:=h.blk.lt;have bZ:=h.src.lt;simp only at aw bZ;clear h hN;go_enter func139,ntmps139;exact AF
namespace B2
theorem fW(h:p:=by
 generalize b7:World.setCell _ _ _=Y;obtain⟨bz,bA,bj⟩:=dR (M:=λb=>b=s) [.int .i64 x.aZ,.int .i64 x.numOf,.string x.bk,.slice cu cr cD] (by rfl) bx.o bt.2 (Lb _) b7;obtain⟨bE,bg,bh⟩:=bz.two;go_wp2_with(fail);refine LK (v:=.agg #[.int .i64 x.aZ,.int .i64 x.numOf,.string x.bk,.slice cu cr cD]) (by simp[results,Tryz.results118,go_sem,bE]) rfl ?_;obtain⟨hx,aF,bX,b6,bv⟩:=aR.o;have bd:x.src V 2:=by
  obtain rfl|rfl:k=0\/k=1:=ab
  .exact iJ 1 x hx
  .exact hx
 exact⟨x,cu,cr,cD,rfl,bd,aF,(bX.ai λb O=>bj.block b O.2 (aC O.1)).mono λb O=>⟨by have:=O.1;omega,Lc O.2 bj.size⟩,bt.1.cM bj (λb O h=>ab),bA⟩
 ):p:=h
theorem At(h:p:=by
 refine LK (v:=.agg #[.int .i64 x.aZ,.int .i64 x.numOf,.string x.bk,.slice cu cr cD]) (by simp[results,Tryz.results118,go_sem,bE]) rfl ?_;obtain⟨hx,aF,bX,b6,bv⟩:=aR.o;exact⟨x,cu,cr,cD,rfl,iJ 1 x (iJ 0 x hx),aF,(bX.ai λb O=>bj.block b O.2 (aC O.1)).mono λb O=>⟨by have:=O.1;omega,Lc O.2 bj.size⟩,bt.1.cM bj (λb O h=>ab),bA⟩
 ):p:=h
theorem AG(h:p:=by
 cases ar with
 | false=>
  go_wp2_with(fail);refine(pk s A n c l V I bl aa bB 0 ab W aH.1.src aH.2.1).mono ?_;rintro e aV ⟨x,cu,cr,cD,rfl,hx,aF,bX,h,he⟩;have aN:=aH.2.2.2.on he ab;have bt:=ah h (aH.2.2.1.trans he);have aR:=dq hx aF bX he.size aH.2.2.2.lt
  exact Bf
 | true=>
  have cy:¬wb=s:=by have:=aH.1.ne;simp only at this;omega
  go_upto_region 3 with(fail);refine eU (λb=>b=s) [(0,3),(1,3),(2,3),(3,0),(4,3),(5,3),(6,3),(7,3),(8,0),(9,1),(10,3),(11,2),(12,2)] ?_
  iterate 3 refine pf ?_
  refine qF ?_
  iterate 4 refine pf ?_
  refine qF ?_;refine aO rfl (λK hK=>?_);go_simp;refine(aX W.drew s A n c l 2 (aH.1.aj LL.drew).src ab ab).mono ?_;rintro e aP ⟨cd,rfl,a2,bL,h,he⟩;obtain⟨k,rfl⟩:=Lg a2;have co:k<2:=ab;have ag:Fr (λb=>b=s) W aP:=Fr.aQ he.fr;have H1:=bG (aH.1.next h ag) (aH.2.1.on ag) (aH.2.2.1.trans ag) (aH.2.2.2.on ag ab);refine ei hK (he.fr) ?_;clear hK K;clear h he ag a0 ap aj a2 bL;refine pf ?_;refine aq rfl (λK hK=>?_);go_simp;have ci:(1:Int)+(k:Int)=((k+1:Nat):Int):=ab;rw[ci,show IntKind.i64.wrap ((k+1:Nat):Int)=((k+1:Nat):Int) from IntWalk.i64_in _ ab];refine(pk s A n c l V I bl aa bB (k+1) ab aP H1.1.src H1.2.1).mono ?_;rintro e aV ⟨x,cu,cr,cD,rfl,hx,aF,bX,h,he⟩;have aN:=H1.2.2.2.on he ab;have bt:=ah h (H1.2.2.1.trans he);have aR:=dq hx aF bX he.size H1.2.2.2.lt;obtain⟨e0,bk,a5⟩:=aN.two;have bx:=ad aN;clear h he aN hx aF bX;refine eL hK ?_;clear hK K;exact fV
 ):p:=h
end B2
open B2 in
theorem jP(p:ks)(left:Nat)(V:LQ)(I:LP)(bl aa:Nat)(w:World)(h:gq w p left)(hN:ns w p.s V I bl)(bB:bl<=1000) :
  Calls prog 118 #[.pointer (some ⟨p.wb,0,none⟩),.slice I bl aa] w (tJ w p.s p.A p.n p.c p.l V 2):=by
 obtain⟨s,wb,A,n,c,l,GA,gn,gc,MA,mn,mc,FA,fn,fc,M,F,ar⟩:=p;have H:=ah h hN;have aw:=h.blk.lt;have bZ:=h.src.lt;simp only at aw bZ;clear h hN;go_enter func118,ntmps118;exact AF
def Im(w:World)(p:ks)(V:LQ)(ps:List (ByteArray×Bool))(e:Ending)(ac:World):Prop:=
 ∃(r:eN) (IA:LP) (i ic:Nat),e=.returned (.agg #[.string r.name,.slice IA i ic])/\(∀fs,rf ⟨p.M,ps,fs⟩ V r)/\i<=ic/\Sl ac (fresh w ac) IA i (r.idx.toList.map bf)/\cc ac p.s p.A p.n p.c p.l/\Fr (λb=>b=p.s) w ac
theorem tp{x:ByteArray×Bool}:(ct x).rep w P cs↔cs=[.string x.1,.bool x.2]:=by
 exact Gx
theorem uN{x:ByteArray}:(D.s x).rep w P cs↔cs=[.string x]:=by simp only[D.rep]
theorem q6(p:ks)(left:Nat)(V:LQ)(I:LP)(bl aa:Nat)(aY:ByteArray)(ps:List (ByteArray×Bool))(QA:LP)(cg qc:Nat)(bT:Value)(w:World)(h:gq w p left)(hN:ns w p.s V I bl)(bB:bl<=1000)
  (cq:Sl w (off (λb=>b=p.s) w) QA cg (ps.map ct)) (br:cg<=2) :
  Calls prog 117 #[.pointer (some ⟨p.wb,0,none⟩),.agg #[.string aY,.slice QA cg qc,bT],.slice I bl aa] w (Im w p V ps):=by
 obtain⟨s,wb,A,n,c,l,GA,gn,gc,MA,mn,mc,FA,fn,fc,M,F,ar⟩:=p;have H:=aL h hN cq;have aw:=h.blk.lt;have bZ:=h.src.lt;have R:=h.nm;have a6:M.length=mn:=by have:=h.ms.1;simpa using this
 simp only at aw bZ R;clear h hN cq;go_enter func117,ntmps117;go_wp2_with(fail);generalize be:World.alloc _ _=W;have aE:=im be;have ca:=fU be;have bF:=fL be;have cE:W.heap.size=w.heap.size+1+1:=by rw[<-be];simp
 have aH:=aL aE ca bF;clear be aE ca bF;obtain⟨eT,r⟩:∃eT:Nat->List D,eT=λj=>(M.take j).map λm=>D.s m.name:=⟨_,rfl⟩
 have bL:eT 0=[]:=by rw[r];rfl
 have N:∀j m,M[j]?=some m->eT (j+1)=eT j++[.s m.name]:=λj m h=>by rw[r];simp only;rw[List.take_add_one,h];simp
 obtain⟨aR,aG,a1⟩:=eG r bL N;clear r bL N;go_loopw [7,8] (λgO ce wr=>∃(k:Nat) (cn:LP) (rc:Nat),k<=mn/\ce=.int .i64 k/\gO=.slice cn k rc/\Ext W wr/\Gr (λ_=>False) (w.heap.size+1+1) 9 1 wr cn k rc (eT k)) (λ_ ce _=>mn - (intOf ce).toNat)
 case atStart=>exact⟨0,none,0,Lx _,rfl,rfl,LL,by rw[aG.o];exact Gr.nil _ _ _ _ _⟩
 case round=>
  obtain⟨k,cn,rc,ai,rfl,rfl,aE,hG⟩:=hrel;obtain⟨a8,cj⟩:=aM aE hG;have J:=H.1.aj (aH.1.trans aE);obtain⟨a0,ap,aj⟩:=J.blk.two;by_cases dp:k<mn
  .obtain⟨b,o,m,cs,aD,O,hm,aQ,bi,hc⟩:=Sl.gZ (z:=3) J.ms (λ_=>rfl) dp;simp only at aD;subst aD;obtain rfl:=e4.1 aQ;have c0:=hc 0 _ rfl;simp only[Ll] at c0;have dL:=ad hm;have bw:(0:Int)<=(k:Int):=ab;have ci:(k:Int)<(mn:Int):=ab;have b4:w.heap.size+1+1<=wr.heap.size:=by have:=aE.size;omega
   clear aE hG J aQ hc bi hm;go_wp2_with((at_builtin;refine bI kB rfl (.tmp 23) (.tmp 33) rfl cj.o (uN.2 rfl) rfl rfl rfl ab ab b4 ?_;intro aU c2 aV al ay cf bR;have bY:=ah al ay;clear al ay cf bR));have a2:Ext W aV:=a8.eI (bY.2.below a8.size λj bd O=>by have:=(cj.lt O).1;omega);have a7:=ad a2;clear a2;go_roundw
   case rel=>exact⟨k+1,aU,c2,ab,by go_num,rfl,a7.o,by rw[a1.o k m dL.o];exact bY.1⟩
   case measure=>exact az
  .obtain rfl:k=mn:=ab;have bM:Gr (λ_=>False) (w.heap.size+1+1) 9 1 wr cn k rc ((M.map (·.name)).map D.s):=by
    have:=cj.o;rw[aR.o] at this;simp only at this;rw[Lj ab] at this;rw[List.map_map];exact this
   have bv:=ad bM;clear aE hG J cj bM aR aG a1;go_wp2_with(fail);go_loopw [7,10] (λgO ce wr=>∃(j:Nat) (cn:LP) (rc:Nat) (bJ:LQ),j<=cg/\ce=.int .i64 j/\gO=.slice cn (k+bJ.length) rc/\bJ.length<=2*j/\(∀x∈bJ,(x,true)∈ps)/\Ext W wr/\Gr (λ_=>False) (w.heap.size+1+1) 9 1 wr cn (k+bJ.length) rc ((M.map (·.name)++bJ).map D.s)) (λ_ ce _=>cg - (intOf ce).toNat)
   case atStart=>exact⟨0,cn,rc,[],Lx _,rfl,rfl,by simp,(λx hx=>by cases hx),a8.o,by rw[LC];exact bv.o⟩
   case round=>
    obtain⟨j,cn,rc,bJ,bd,rfl,rfl,aI,ax,aE,hG⟩:=hrel;clear bv a8;obtain⟨a8,cj,L⟩:=eG aE hG ax;have b4:w.heap.size+1+1<=wr.heap.size:=by have:=aE.size;omega
    by_cases dp:j<cg
    .obtain⟨d0,af,aS⟩:=(aH.2.1.aj aE).two;obtain⟨b,o,q,cs,bS,O,hm,aQ,bi,hc⟩:=Sl.gZ (z:=2) (Sl.cS H.2.2 ((aH.1.trans aE).mono (M':=λb=>b=s) λ_ h=>h.elim)) (λ_=>rfl) dp;subst bS;obtain rfl:=tp.1 aQ;have c0:=hc 0 _ rfl;have c1:=hc 1 _ rfl;simp only[Ll] at c0;have dL:=ad hm;have aO:=O.1;have b9:(0:Int)<=(j:Int):=ab;have f0:(j:Int)<(cg:Int):=ab;clear aE hG aQ hc bi hm ax O;obtain⟨q1,cp⟩:=q
     cases cp with
     | false=>
      go_wp2_with(fail);go_roundw
      case rel=>exact⟨j+1,cn,rc,bJ,ab,by go_num,rfl,ab,L.o,a8.o,cj.o⟩
      case measure=>exact az
     | true=>
      go_upto_region 11 with(fail);refine eU (λ_=>False) [(0,3),(1,3),(2,0),(3,3),(4,3),(5,3),(6,0),(7,3),(8,0),(9,3),(10,3),(11,3),(12,0),(13,2),(14,2),(15,3)] ?_
      iterate 2 refine pf ?_
      refine ph ?_
      iterate 3 refine pf ?_
      refine ph ?_;refine pf ?_;refine ph ?_
      iterate 3 refine pf ?_
      refine ph ?_;refine aq rfl (λK hK=>?_);go_simp;refine eL hK ?_;clear hK K;generalize bD:World.drew (World.alloc _ _)=Z;have bn:=gX bD;have bH:=lN bD;have av:Src Z 1 (some ⟨wr.heap.size,0,none⟩) 2 [.string q1,.string q1]:=⟨rfl,λu hu=>by
       simp only[Lr,List.not_mem_nil,or_false] at hu;rcases hu with rfl|rfl<;>rfl,λ_=>⟨_,0,rfl,λj u bd=>by rw[Lt,bH.cell];simpa using bd⟩⟩
      have bK:=cj.aj bn;have b0:=bn.size;clear bD d0 af aS c0 c1;refine aq rfl (λK hK=>?_);rw[if_pos (by rfl)];refine xk kB (.tmp 50) (.tmp 63) (by rfl) bK (m:=2) (k:=[D.s q1,D.s q1]) (ch.2 ⟨_,rfl,ch.2 ⟨_,rfl,aK.2 rfl⟩⟩) rfl av (λh=>by cases h) (by rfl) (by rfl) ab ab ab ?_;intro aU c2 aV al ay cf bR;have a2:Ext W aV:=(a8.trans bn).eI (ay.below (aC a8.size) λi ak O=>by have:=(cj.lt O).1;omega);have bY:=ah al a2;clear al ay cf bR a2 bK bn bH av;refine eL hK ?_;clear hK K;refine pf ?_;refine aB ?_;go_wp2_with(fail);go_roundw
      case rel=>
       refine⟨j+1,aU,c2,bJ++[q1,q1],ab,by go_num,by simp[Nat.add_assoc],by simp;omega,?_,bY.2,?_⟩
       .intro x hx;rcases Lk.1 hx with hx|hx
        .exact L.o x hx
        .simp at hx;subst hx;exact Le dL.o
       .have:=bY.1;rw[<-List.append_assoc,Li,Ld];exact this
      case measure=>exact az
    .obtain rfl:j=cg:=ab;have J:=H.1.aj (aH.1.trans aE);obtain⟨a0,ap,aj⟩:=J.blk.two;obtain⟨d0,af,aS⟩:=(aH.2.1.aj aE).two;have cd:1<=k+bJ.length/\k+bJ.length<=8:=ab;have bo:=ad J;clear aE hG ax J;go_wp2_with(fail);refine(aX wr s A n c l ((k+bJ.length:Nat):Int) bo.src ab ab).mono ?_;rintro e aP ⟨aZ,rfl,S,aA,h,he⟩;obtain⟨i3,rfl⟩:=Lg S;have e2:i3<k+bJ.length:=ab;have cb:s<w.heap.size:=bZ;have bm:=bo.next h he.fr;have ac:Fr (λb=>b=s) w aP:=((aH.1.trans a8.o).mono λ_ h=>h.elim).trans he.fr;have cD:=cj.cS he.fr (λb O _=>⟨λh=>h,ab⟩);have bF:=(aH.2.2.aj a8.o).on he.fr (λh=>ab);have H1:=bG bm ac cD bF;have aN:Sl aP (au aP) cn (k+bJ.length) ((M.map (·.name)++bJ).map D.s):=cD.sl (λ_ _ h=>h.elim) (λ_ h _=>h);obtain⟨b,o,x,cs,bQ,O,hm,aQ,bi,hc⟩:=Sl.gZ (z:=1) aN (λ_=>rfl) e2;subst bQ;obtain rfl:=uN.1 aQ;have c0:=hc 0 _ rfl;simp only[Nat.mul_one,Ll] at c0;have dL:=ad hm;have b5:(0:Int)<=(i3:Int):=ab;have b6:(i3:Int)<((k+bJ.length:Nat):Int):=ab;clear h he bm ac cD aN aQ hc bi hm a0 ap aj d0 af aS bo S aA bF;go_upto_region 14 with(fail);generalize hX:World.alloc _ _=X;have bq:=bb hX;have cH:=aT hX;have b8:w.heap.size+1+1<=aP.heap.size:=by have:=H1.2.2.2.lt;omega
     have bt:=dq (H1.1.aj bq) (H1.2.1.trans (bq.mono λ_ h=>h.elim)) (H1.2.2.2.aj bq) cH (H.2.1.on (H1.2.1.trans (bq.mono λ_ h=>h.elim)));clear hX bq cH H1 c0;obtain⟨a0,ap,aj⟩:=bt.1.blk.two;obtain⟨a3,am,aJ⟩:=bt.2.2.1.two;obtain⟨d0,af,aS⟩:=bt.2.2.2.1.two;have cy:¬wb=s:=by have:=bt.1.ne;simp only at this;omega
     by_cases b1:i3<k
     .obtain⟨hp,bp,m,cs,aD,b2,P,aQ,bi,hc⟩:=Sl.gZ (z:=3) bt.1.ms (λ_=>rfl) b1;simp only at aD;subst aD;obtain rfl:=e4.1 aQ;have c2:=hc 2 _ rfl;have ao:x=m.name:=by
       have:=dL.o;rw[List.getElem?_append_left (by simp;omega),List.getElem?_map,P] at this;injection this with this;exact this.symm
      have bu:m∈M:=Le P;have a9:=bt.1.gy m bu;have a5:=ah ao bu;have bO:(i3:Int)<(k:Int):=ab;clear aQ hc bi P ao bu b2;by_cases U:0<m.size
      .go_wp2_with(fail);refine(yN ⟨s,wb,A,n,c,l,GA,gn,gc,_,k,mc,FA,fn,fc,M,F,ar⟩ left V I bl aa m.size U a9.2 X bt.1 bt.2.2.2.2 bB).mono ?_;rintro e b3 ⟨y,cK,cR,cT,rfl,a4,cF,cw,av,ag⟩;simp only at av ag;have bW:=bt.2.2.1.on ag ab;have ba:=bt.2.2.2.1.on ag ab;have cl:=bt.2.1.trans ag;have cm:=ag.size;clear a0 ap aj a3 am aJ d0 af aS c2;obtain⟨a3,am,aJ⟩:=bW.two;obtain⟨d0,af,aS⟩:=ba.two;have bP:=gY a4 cF cw av cl bW ba;clear a4 cF cw av cl ag bW ba;go_upto_region 16 with(fail);generalize bD:World.setCell _ _ _=Z;have b0:Z.heap.size=b3.heap.size:=by rw[<-bD];simp
       generalize hQ:World.alloc _ _=Q;have bC:=dj bD;have T:=bb hQ;have aF:an Q b3.heap.size 56 #[.int .i64 y.aZ,.int .i64 y.numOf,.string y.bk,.slice cK cR cT]:=hQ▸an.hY _ _ _ b0.symm;have bN:an Q aP.heap.size 185 #[.string x,.slice (some ⟨b3.heap.size,0,none⟩) 1 1]:=by
        have ae:an Z aP.heap.size 185 #[.string x,.slice (some ⟨b3.heap.size,0,none⟩) 1 1]:=bD▸bP.2.2.2.2.2.2.aD 1 _;exact ae.aj T
       have bs:=((bP.2.2.2.2.2.1.on bC ab).aj T)
       have bx:Fr (λb=>b=s) w Q:=(bP.2.2.2.2.1.eI (bC.below bP.2.2.2.2.1.size λi ak h=>ab)).trans (T.mono λ_ h=>h.elim);have bc:cc Q s A n c l:=(bP.2.2.2.1.cM bC λb O h=>ab).cM T λ_ _ h=>h;have dl:aP.heap.size<X.heap.size:=bt.2.2.2.1.lt;have bk:Sl Q (fresh X Q) cK cR (y.args.map bf):=(bP.2.2.1.ai λb O=>(T.block b (aC O.2) λh=>h).trans (bC.block b O.2 (aC O.1))).mono λb O=>⟨O.1,by have:=O.2;have:=T.size;omega⟩
       have bU:=dq aF bs bx bc bk;have ck:=aF.lt;clear a3 am aJ d0 af aS;obtain⟨a3,am,aJ⟩:=bs.two;obtain⟨d0,af,aS⟩:=bN.two;clear bD hQ bC T aF bN bs bx bc bk;go_wp2_with(fail);generalize b7:World.setCell _ _ _=Y;obtain⟨bz,bA,bj⟩:=dR (M:=λb=>b=s) [.string x,.slice (some ⟨b3.heap.size,0,none⟩) 1 1] (by rfl) bU.2.1 bU.2.2.1 ab b7;obtain⟨bE,bg,bh⟩:=bz.two;refine LK (v:=.agg #[.string x,.slice (some ⟨b3.heap.size,0,none⟩) 1 1]) (by simp[results,Tryz.results117,go_sem,bE]) rfl ?_;obtain⟨aF,_,_,bc,bk⟩:=bU.o;have bX:Sl Y (fresh w Y) cK cR (y.args.map bf):=(bk.ai λb O=>bj.block b O.2 (aC O.1)).mono λb O=>⟨by have:=O.1;omega,Lc O.2 bj.size⟩
       refine⟨⟨x,some y⟩,some ⟨b3.heap.size,0,none⟩,1,1,rfl,λfs=>.inl ⟨m,a5.2,a5.1.symm,λ_=>⟨y,rfl,bP.1⟩,λh=>absurd U h⟩,Lb _,?_,bc.cM bj (λb O h=>ab),bA⟩;exact Sl.nG (aF.on bj ab) (D.bo.2 (aW.2 ⟨cK,cR,cT,rfl,bP.2.1,bX⟩)) ⟨ab,by have:=bj.size;omega⟩ rfl
      .go_wp2_with(fail);generalize b7:World.setCell _ _ _=Y;obtain⟨bz,bA,bj⟩:=dR (M:=λb=>b=s) [.string x,.slice none 0 0] (by rfl) bt.2.2.1 bt.2.1 ab b7;obtain⟨bE,bg,bh⟩:=bz.two;refine LK (v:=.agg #[.string x,.slice none 0 0]) (by simp[results,Tryz.results117,go_sem,bE]) rfl ?_;exact⟨⟨x,none⟩,none,0,0,rfl,λfs=>.inl ⟨m,a5.2,a5.1.symm,λh=>absurd h ab,λ_=>rfl⟩,Lb _,Sl.bN _,bt.1.src.cM bj (λb O h=>by simp only at O;omega),bA⟩
     .have bO:¬(i3:Int)<(k:Int):=ab;go_wp2_with(fail);generalize b7:World.setCell _ _ _=Y;obtain⟨bz,bA,bj⟩:=dR (M:=λb=>b=s) [.string x,.slice none 0 0] (by rfl) bt.2.2.1 bt.2.1 ab b7;obtain⟨bE,bg,bh⟩:=bz.two;refine LK (v:=.agg #[.string x,.slice none 0 0]) (by simp[results,Tryz.results117,go_sem,bE]) rfl ?_;have bV:x∈bJ:=by
       have:=dL.o;rw[List.getElem?_append_right (by simp;omega)] at this;exact Le this
      exact⟨⟨x,none⟩,none,0,0,rfl,λfs=>.inr ⟨L.o x bV,rfl⟩,Lb _,Sl.bN _,bt.1.src.cM bj (λb O h=>by simp only at O;omega),bA⟩
theorem sJ:ca prog 186 213 (.agg #[.bool false,.string ⟨#[]⟩,.slice none 0 0,.int .i64 0,.int .i64 0,.string ⟨#[]⟩,.slice none 0 0]) 7 104:=ca.mk' Tryz.underlying186 (by kernel_rfl) rfl ab
theorem ya{r:eN}{IA:LP}{i ic:Nat}(h:Sl w P IA i (r.idx.toList.map bf))(hc:i<=ic):(eD (.mx r)).rep w P [.bool true,.string r.name,.slice IA i ic,.int .i64 0,.int .i64 0,.string ⟨#[]⟩,.slice none 0 0]:=by
 unfold eD;rw[bB];exact fi.2 ⟨_,rfl,gK.2 ⟨[.string r.name,.slice IA i ic],_,rfl,jC.2 ⟨IA,i,ic,rfl,hc,h⟩,D.bo.2 (fa.2 ⟨none,0,rfl⟩)⟩⟩
theorem FH{x:VE}{cu:LP}{cr cD:Nat}(h:Sl w P cu cr (x.args.map bf))(hc:cr<=cD):(eD (.ex x)).rep w P [.bool false,.string ⟨#[]⟩,.slice none 0 0,.int .i64 x.aZ,.int .i64 x.numOf,.string x.bk,.slice cu cr cD]:=by
 unfold eD;rw[bB];refine fi.2 ⟨_,rfl,gK.2 ⟨[.string ⟨#[]⟩,.slice none 0 0],_,rfl,?_,D.bo.2 (aW.2 ⟨cu,cr,cD,rfl,hc,h⟩)⟩⟩;exact zE
theorem nX{G:Env}{V:LQ}{q:ByteArray×Bool}{a:dd}:∀(ps:List (ByteArray×Bool)) (aI:List dd),h2 G V ps aI->Je G V q a->h2 G V (ps++[q]) (aI++[a])
 | [],[],_,h=>⟨h,trivial⟩
 | _::ps,_::aI,h,aD=>⟨h.1,nX ps aI h.2 aD⟩
 | [],_::_,h,_=>h.elim
 | _::_,[],h,_=>h.elim
def Ic(w:World)(p:ks)(V:LQ)(ps gs:List (ByteArray×Bool))(e:Ending)(ac:World):Prop:=
 ∃(aI:List dd) (KA:LP) (k kc:Nat),e=.returned (.slice KA k kc)/\(∀fs,h2 ⟨p.M,ps,fs⟩ V gs aI)/\k<=kc/\Sl ac (fresh w ac) KA k (aI.map eD)/\cc ac p.s p.A p.n p.c p.l/\Fr (λb=>b=p.s) w ac
theorem zk(p:ks)(left:Nat)(V:LQ)(I:LP)(bl aa:Nat)(aY:ByteArray)(ps:List (ByteArray×Bool))(QA:LP)(cg qc:Nat)(bT:Value)(g:ByteArray)(gs:List (ByteArray×Bool))(bM:LP)(b2 bo:Nat)(u:Value)(w:World)(h:gq w p left)(hN:ns w p.s V I bl)(bB:bl<=1000)
  (cq:Sl w (off (λb=>b=p.s) w) QA cg (ps.map ct)) (br:cg<=2) (bJ:Sl w (off (λb=>b=p.s) w) bM b2 (gs.map ct)) (ck:b2<=2) :
  Calls prog 119 #[.pointer (some ⟨p.wb,0,none⟩),.agg #[.string aY,.slice QA cg qc,bT],.agg #[.string g,.slice bM b2 bo,u],.slice I bl aa] w (Ic w p V ps gs):=by
 obtain⟨s,wb,A,n,c,l,GA,gn,gc,MA,mn,mc,FA,fn,fc,M,F,ar⟩:=p;have aw:=h.blk.lt;have bZ:=h.src.lt;have b8:gs.length=b2:=by have:=bJ.1;simpa using this
 simp only at aw bZ;have H:=bG h hN cq bJ;clear h hN cq bJ;go_enter func119,ntmps119;go_wp2_with(fail);generalize be:World.alloc _ _=W;have aE:=im be;have ca:=fU be;have bF:=fL be;have cE:W.heap.size=w.heap.size+1+1:=by rw[<-be];simp
 have aH:=bG (H.1.aj aE) (aE.mono (M':=λb=>b=s) λ_ h=>h.elim) ca bF;clear be aE ca bF;go_loopw [9,10] (λR ce wr=>∃(j:Nat) (cn:LP) (rc:Nat) (aI:List dd),j<=b2/\ce=.int .i64 j/\R=.slice cn j rc/\(∀fs,h2 ⟨M,ps,fs⟩ V (gs.take j) aI)/\gq wr ⟨s,wb,A,n,c,l,GA,gn,gc,MA,mn,mc,FA,fn,fc,M,F,ar⟩ left/\Fr (λb=>b=s) w wr/\an wr w.heap.size 137 #[.string aY,.slice QA cg qc,bT]/\an wr (w.heap.size+1) 137 #[.string g,.slice bM b2 bo,u]/\
  Gr (λb=>w.heap.size<=b) (w.heap.size+1+1) 213 7 wr cn j rc (aI.map eD)) (λ_ ce _=>b2 - (intOf ce).toNat)
 case atStart=>exact⟨0,none,0,[],Lx _,rfl,rfl,λfs=>trivial,aH.1,aH.2.1,aH.2.2.1,aH.2.2.2,Gr.nil _ _ _ _ _⟩
 case round=>
  obtain⟨j,cn,rc,aI,bd,rfl,rfl,aA,J,hF,bL,a9,hG⟩:=hrel;clear aH;have aZ:=dq J hF bL a9 hG;have ao:=ad aA;obtain⟨d0,af,aS⟩:=a9.two;obtain⟨e0,bk,a5⟩:=bL.two;by_cases dp:j<b2
  .obtain⟨b,o,q,cs,eC,O,hm,aQ,bi,hc⟩:=Sl.gZ (z:=2) (Sl.cS H.2.2.2 hF) (λ_=>rfl) dp;subst eC;obtain rfl:=tp.1 aQ;have c1:=hc 1 _ rfl;have dL:=ad hm;have b9:(0:Int)<=(j:Int):=ab;have f0:(j:Int)<(b2:Int):=ab;have np:=hF.size;clear aQ hc bi hm O J hF bL a9 hG aA;obtain⟨q1,cp⟩:=q;simp only at c1
   cases cp with
   | true=>
    go_wp2_with(fail);refine(q6 ⟨s,wb,A,n,c,l,GA,gn,gc,MA,mn,mc,FA,fn,fc,M,F,ar⟩ left V I bl aa aY ps QA cg qc bT wr aZ.1 (H.2.1.on aZ.2.1) bB (Sl.cS H.2.2.1 aZ.2.1) br).mono ?_;rintro e aV ⟨r,IA,i,ic,rfl,a1,aq,aB,av,ag⟩;simp only at a1 av ag;have L:=aZ.2.2.2.2.cS ag (λb O _=>⟨ab,ab⟩);have hd:(eD (.mx r)).rep aV (lu (λb=>w.heap.size<=b) aV (.slice cn j rc)) [.bool true,.string r.name,.slice IA i ic,.int .i64 0,.int .i64 0,.string ⟨#[]⟩,.slice none 0 0]:=
     ya (aB.mono λb O=>⟨by have:=O.1;omega,O.2,λh=>by have:=(aZ.2.2.2.2.lt h).2;have:=O.1;omega⟩) aq
    have bt:=ej (aZ.1.next av ag) (aZ.2.1.trans ag) (aZ.2.2.1.on ag ab) (aZ.2.2.2.1.on ag ab) L hd;have m:=ad a1;have b4:w.heap.size+1+1<=aV.heap.size:=by have:=ag.size;omega
    clear d0 af aS e0 bk a5 c1 L hd ag av aB aq a1 aZ;go_wp2_with((at_builtin;refine bI sJ rfl (.tmp 24) (.tmp 30) rfl bt.2.2.2.2.1 bt.2.2.2.2.2 rfl rfl rfl ab ab b4 ?_;intro aU c2 b3 al ay cf bR;have bY:=ah al ay;clear al ay cf bR));have aG:∀b,(Value.slice cn j rc).ownBlock=some b->w.heap.size+1+1<=b:=λb O=>(bt.2.2.2.2.1.lt O).1;have bu:Fr (λb=>b=s) w b3:=bt.2.1.eI (bY.2.below bt.2.1.size λk ai h=>by have:=aG k h;omega);have cW:gq b3 ⟨s,wb,A,n,c,l,GA,gn,gc,MA,mn,mc,FA,fn,fc,M,F,ar⟩ left:=(H.1).next (bt.1.src.cM bY.2 λb O h=>by have:=aG b h;simp only at O;omega) bu;have b0:=dq cW bu (bt.2.2.1.on bY.2 (λh=>by have:=aG _ h;omega)) (bt.2.2.2.1.on bY.2 (λh=>by have:=aG _ h;omega)) bY.1;clear aG bu cW;go_roundw
    case rel=>
     refine⟨j+1,aU,c2,aI++[.mx r],ab,by go_num,rfl,λfs=>?_,b0.1,b0.2.1,b0.2.2.1,b0.2.2.2.1,by rw[Li];exact b0.2.2.2.2⟩;rw[List.take_add_one,dL.o];exact nX _ _ (ao.o fs) ⟨rfl,m.o fs⟩
    case measure=>exact az
   | false=>
    go_wp2_with(fail);refine(jP ⟨s,wb,A,n,c,l,GA,gn,gc,MA,mn,mc,FA,fn,fc,M,F,ar⟩ left V I bl aa wr aZ.1 (H.2.1.on aZ.2.1) bB).mono ?_;rintro e aV ⟨x,cu,cr,cD,rfl,a1,aq,aB,av,ag⟩;simp only at av ag;have L:=aZ.2.2.2.2.cS ag (λb O _=>⟨ab,ab⟩);have hd:(eD (.ex x)).rep aV (lu (λb=>w.heap.size<=b) aV (.slice cn j rc)) [.bool false,.string ⟨#[]⟩,.slice none 0 0,.int .i64 x.aZ,.int .i64 x.numOf,.string x.bk,.slice cu cr cD]:=
     FH (aB.mono λb O=>⟨by have:=O.1;omega,O.2,λh=>by have:=(aZ.2.2.2.2.lt h).2;have:=O.1;omega⟩) aq
    have bt:=ej (aZ.1.next av ag) (aZ.2.1.trans ag) (aZ.2.2.1.on ag ab) (aZ.2.2.2.1.on ag ab) L hd;have m:=ad a1;have b4:w.heap.size+1+1<=aV.heap.size:=by have:=ag.size;omega
    clear d0 af aS e0 bk a5 c1 L hd ag av aB aq a1 aZ;go_wp2_with((at_builtin;refine bI sJ rfl (.tmp 32) (.tmp 37) rfl bt.2.2.2.2.1 bt.2.2.2.2.2 rfl rfl rfl ab ab b4 ?_;intro aU c2 b3 al ay cf bR;have bY:=ah al ay;clear al ay cf bR));have aG:∀b,(Value.slice cn j rc).ownBlock=some b->w.heap.size+1+1<=b:=λb O=>(bt.2.2.2.2.1.lt O).1;have bu:Fr (λb=>b=s) w b3:=bt.2.1.eI (bY.2.below bt.2.1.size λk ai h=>by have:=aG k h;omega);have cW:gq b3 ⟨s,wb,A,n,c,l,GA,gn,gc,MA,mn,mc,FA,fn,fc,M,F,ar⟩ left:=(H.1).next (bt.1.src.cM bY.2 λb O h=>by have:=aG b h;simp only at O;omega) bu;have b0:=dq cW bu (bt.2.2.1.on bY.2 (λh=>by have:=aG _ h;omega)) (bt.2.2.2.1.on bY.2 (λh=>by have:=aG _ h;omega)) bY.1;clear aG bu cW;go_roundw
    case rel=>
     refine⟨j+1,aU,c2,aI++[.ex x],ab,by go_num,rfl,λfs=>?_,b0.1,b0.2.1,b0.2.2.1,b0.2.2.2.1,by rw[Li];exact b0.2.2.2.2⟩;rw[List.take_add_one,dL.o];exact nX _ _ (ao.o fs) ⟨rfl,m.o⟩
    case measure=>exact az
  .obtain rfl:j=b2:=ab;clear J hF bL a9 hG aA;go_wp2_with(fail);go_ret;have ae:=ao.o;rw[Lj ab] at ae;exact⟨aI,cn,j,rc,rfl,ae,aZ.2.2.2.2.cap.1,aZ.2.2.2.2.sl (λb h hp=>⟨hp,h⟩) (λb h hp=>⟨ab,h⟩),aZ.1.src,aZ.2.1⟩
end Go.Proofs.YtflecliffjbleaaGreat
