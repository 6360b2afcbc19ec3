/- Part 32 of the proof. No condition of its own. -/
import Derived.Test.YtnigabjngpnbiabGreatF23
import Derived.Test.YtnigabjngpnbiabGreatF25
namespace Go.Proofs.YtnigabjngpnbiabGreat
open Go.RowKit Go.Proofs.Tryz
set_option maxRecDepth 1000000
set_option maxHeartbeats 25600000
set_option linter.unusedVariables false
variable{cs:List Value}{B L left on:Nat}{M P:Nat->Prop}{be:NH}{p:Prop}{S ab w:World}{r:eY}
structure kL where
 s:Nat
 wb:Nat
 A:Option Addr
 n:Nat
 c:Nat
 l:List Int
 GA:Option Addr
 gn:Nat
 gc:Nat
 MA:Option Addr
 mn:Nat
 mc:Nat
 FA:Option Addr
 fn:Nat
 fc:Nat
 M:List bM
 F:List aI
 ar:Bool
abbrev kL.MW(p:kL):Nat->Prop:=λb=>b=p.s\/b=p.wb
structure gN(w:World)(p:kL)(left:Nat):Prop where
 src:cu w p.s p.A p.n p.c p.l
 blk:an w p.wb 156 #[.pointer (some ⟨p.s,0,none⟩),.slice p.GA p.gn p.gc,.slice p.MA p.mn p.mc,.slice p.FA p.fn p.fc,.int .i64 left,.bool p.ar]
 ne:p.s<p.wb
 ms:Sl w (off p.MW w) p.MA p.mn (p.M.map eF)
 fs:Sl w (off p.MW w) p.FA p.fn (p.F.map dA)
 nm:1<=p.mn/\p.mn<=4
 nf:1<=p.fn/\p.fn<=4
 gV:∀m∈p.M,0<=m.size/\m.size<=3
 jo:∀f∈p.F,f.params.length<=2
 k0:left<=24
theorem gN.next{p:kL}(h:gN w p left)(hs:cu ab p.s p.A p.n p.c p.l)(O:Fr (λb=>b=p.s) w ab):gN ab p left:=
 ⟨hs,h.blk.on O (ax h.ne),h.ne,Sl.cD h.ms (O.mono λ_ h=>.inl h),Sl.cD h.fs (O.mono λ_ h=>.inl h),h.nm,h.nf,h.gV,h.jo,h.k0⟩
theorem gN.aj{p:kL}(h:gN w p left)(O:Ext w ab):gN ab p left:=h.next (h.src.cZ O λ_ _ h=>h) (O.mono λ_ h=>h.elim)
theorem nE.aj{s:Nat}{V:NI}{R:NH}{aU:Nat}(h:nE w s V R aU)(O:Ext w ab):nE ab s V R aU:=h.on (O.mono λ_ h=>h.elim)
theorem je{V:NI}:∀(d:Nat) (x:VE),x.src V d->x.src V (d+1)
 | d,.num _,h=>by cases d<;>exact h
 | d,.gU _,h=>by cases d<;>exact h
 | d,.loc _,h=>by cases d<;>exact h.elim
 | d,.ij _,h=>by cases d<;>exact h.elim
 | 0,.un _ _,h=>h.elim
 | 0,.bin _ _ _,h=>h.elim
 | d+1,.un _ x,h=>⟨h.1,je d x h.2⟩
 | d+1,.bin _ x y,h=>⟨h.1,je d x h.2.1,je d y h.2.2⟩
namespace CZ
theorem BH(h:p:=by
 refine NB (v:=.agg #[.int .i64 x.a5,.int .i64 x.numOf,.string x.bw,.slice cW bh cY]) (by simp[results,Tryz.results127,go_sem,bq]) rfl ?_;obtain⟨hx,aM,cm,cn,bO⟩:=aP.o;have b2:=H1.2.2.2.lt;exact⟨x,cW,bh,cY,rfl,je 1 x hx,aM,(cm.ak λb O=>bz.block b O.2 (ax O.1)).mono λb O=>⟨by have:=O.1;omega,M0 O.2 bz.size⟩,b1.1.cZ bz (λb O h=>ad),bA⟩
 ):p:=h
theorem B1(h:p:=by
 cases ar with
 | false=>
  go_wp2_with(fail);refine(aZ _ s A n c l sz al.1.src ac ad).mono ?_;rintro e aO ⟨cw,rfl,a7,b2,h,he⟩;have aT:=al.2.2.2.on he.fr ad;have H1:=ah h (al.2.2.1.trans he.fr);have cT:=ah a7 b2;obtain⟨e0,a6,ag⟩:=aT.two;have bL:=ae aT;clear a0 ak af h he aT a7 b2;go_wp2_with(fail);generalize co:World.setCell _ _ _=Y;obtain⟨bM,bA,bz⟩:=eg (M:=λb=>b=s) [(1:Int),cw,NF,()] (by rfl) bL.o H1.2 (MU _) co;obtain⟨bq,a1,a5⟩:=bM.two;refine NB (v:=.agg #[(1:Int),cw,NF,()]) (by simp[results,Tryz.results127,go_sem,bq]) rfl ?_
  exact⟨.num cw,none,0,0,rfl,⟨cT.1,by have:=cT.2;omega⟩,MU _,Sl.bY _,H1.1.cZ bz (λb O h=>ad),bA⟩
 | true=>
  go_wp2_with(fail);refine(aZ _ s A n c l 3 al.1.src ad ad).mono ?_;rintro e aO ⟨cw,rfl,a7,b2,h,he⟩;have aT:=al.2.2.2.on he.fr ad;have H1:=br (al.1.next h he.fr) (al.2.1.on he.fr) (al.2.2.1.trans he.fr) aT;clear a0 ak af h he aT al;obtain⟨a0,ak,af⟩:=H1.1.blk.two;by_cases aj:cw=1
  .have q:(cw == 1)=true:=by simpa using aj
   clear aj a7 b2;go_wp2_with(fail);refine(pN s A n c l V R aU aq bH 1 ad aO H1.1.src H1.2.1).mono ?_;rintro e aW ⟨x,cW,bh,cY,rfl,hx,aM,cm,h,he⟩;have aT:=H1.2.2.2.on he ad;have b1:=ah h (H1.2.2.1.trans he);have aP:=cQ hx aM cm he.size H1.2.2.1.size;exact CH
  .have q:(cw == 1)=false:=by simpa using aj
   clear aj a7 b2;go_wp2_with(fail);refine(aZ _ s A n c l sz H1.1.src ac ad).mono ?_;rintro e aW ⟨bR,rfl,i,bn,h,he⟩;have aT:=H1.2.2.2.on he.fr ad;have b1:=ah h (H1.2.2.1.trans he.fr);have cT:=ah i bn;obtain⟨e0,a6,ag⟩:=aT.two;have bL:=ae aT;clear a0 ak af h he aT i bn;go_wp2_with(fail);generalize co:World.setCell _ _ _=Y;obtain⟨bM,bA,bz⟩:=eg (M:=λb=>b=s) [(1:Int),bR,NF,()] (by rfl) bL.o b1.2 (MU _) co;obtain⟨bq,a1,a5⟩:=bM.two;refine NB (v:=.agg #[(1:Int),bR,NF,()]) (by simp[results,Tryz.results127,go_sem,bq]) rfl ?_;exact⟨.num bR,none,0,0,rfl,⟨cT.1,by have:=cT.2;omega⟩,MU _,Sl.bY _,b1.1.cZ bz (λb O h=>ad),bA⟩
 ):p:=h
end CZ
open CZ in
theorem zN(p:kL)(left:Nat)(V:NI)(R:NH)(aU aq:Nat)(sz:Int)(ac:0<sz)(az:sz<=3)(w:World)(h:gN w p left)(hN:nE w p.s V R aU)(bH:aU<=1000) :
  Calls prog 127 #[.pointer (some ⟨p.wb,0,none⟩),.slice R aU aq,sz] w (uy w p.s p.A p.n p.c p.l V 2):=by
 obtain⟨s,wb,A,n,c,l,GA,gn,gc,MA,mn,mc,FA,fn,fc,M,F,ar⟩:=p;have H:=ah h hN;have ap:=h.blk.lt;have bS:=h.src.lt;simp only at ap bS;clear h hN;go_enter func127,ntmps127;exact B0
namespace C0
theorem c4(h:p:=by
 generalize co:World.setCell _ _ _=Y;obtain⟨bM,bA,bz⟩:=eg (M:=λb=>b=s) [.int .i64 x.a5,.int .i64 x.numOf,.string x.bw,.slice cW bh cY] (by rfl) bL.o b1.2 (MU _) co;obtain⟨bq,a1,a5⟩:=bM.two;go_wp2_with(fail);refine NB (v:=.agg #[.int .i64 x.a5,.int .i64 x.numOf,.string x.bw,.slice cW bh cY]) (by simp[results,Tryz.results98,go_sem,bq]) rfl ?_;obtain⟨hx,aM,cm,cn,bO⟩:=aP.o;have U:x.src V 2:=by
  obtain rfl|rfl:k=0\/k=1:=ad
  .exact je 1 x hx
  .exact hx
 exact⟨x,cW,bh,cY,rfl,U,aM,(cm.ak λb O=>bz.block b O.2 (ax O.1)).mono λb O=>⟨by have:=O.1;omega,M0 O.2 bz.size⟩,b1.1.cZ bz (λb O h=>ad),bA⟩
 ):p:=h
theorem BH(h:p:=by
 refine NB (v:=.agg #[.int .i64 x.a5,.int .i64 x.numOf,.string x.bw,.slice cW bh cY]) (by simp[results,Tryz.results98,go_sem,bq]) rfl ?_;obtain⟨hx,aM,cm,cn,bO⟩:=aP.o;exact⟨x,cW,bh,cY,rfl,je 1 x (je 0 x hx),aM,(cm.ak λb O=>bz.block b O.2 (ax O.1)).mono λb O=>⟨by have:=O.1;omega,M0 O.2 bz.size⟩,b1.1.cZ bz (λb O h=>ad),bA⟩
 ):p:=h
theorem B1(h:p:=by
 cases ar with
 | false=>
  go_wp2_with(fail);refine(pN s A n c l V R aU aq bH 0 ad W al.1.src al.2.1).mono ?_;rintro e aW ⟨x,cW,bh,cY,rfl,hx,aM,cm,h,he⟩;have aT:=al.2.2.2.on he ad;have b1:=ah h (al.2.2.1.trans he);have aP:=cQ hx aM cm he.size al.2.2.2.lt
  exact CH
 | true=>
  have gR:¬wb=s:=by have:=al.1.ne;simp only at this;omega
  go_upto_region 3 with(fail);refine eJ (λb=>b=s) [(0,3),(1,3),(2,3),(3,0),(4,3),(5,3),(6,3),(7,3),(8,0),(9,1),(10,3),(11,2),(12,2)] ?_
  iterate 3 refine pf ?_
  refine oP ?_
  iterate 4 refine pf ?_
  refine oP ?_;refine aE rfl (λK hK=>?_);go_simp;refine(aZ W.drew s A n c l 2 (al.1.aj NC.drew).src ad ad).mono ?_;rintro e aO ⟨cw,rfl,a7,b2,h,he⟩;obtain⟨k,rfl⟩:=M6 a7;have cK:k<2:=ad;have ai:Fr (λb=>b=s) W aO:=Fr.aF he.fr;have H1:=br (al.1.next h ai) (al.2.1.on ai) (al.2.2.1.trans ai) (al.2.2.2.on ai ad);refine dB hK (he.fr) ?_;clear hK K;clear h he ai a0 ak af a7 b2;refine pf ?_;refine au rfl (λK hK=>?_);go_simp;have ce:(1:Int)+(k:Int)=((k+1:Nat):Int):=ad;rw[ce,show IntKind.i64.wrap ((k+1:Nat):Int)=((k+1:Nat):Int) from IntWalk.i64_in _ ad];refine(pN s A n c l V R aU aq bH (k+1) ad aO H1.1.src H1.2.1).mono ?_;rintro e aW ⟨x,cW,bh,cY,rfl,hx,aM,cm,h,he⟩;have aT:=H1.2.2.2.on he ad;have b1:=ah h (H1.2.2.1.trans he);have aP:=cQ hx aM cm he.size H1.2.2.2.lt;obtain⟨e0,a6,ag⟩:=aT.two;have bL:=ae aT;clear h he aT hx aM cm;refine dY hK ?_;clear hK K;exact ew
 ):p:=h
end C0
open C0 in
theorem j6(p:kL)(left:Nat)(V:NI)(R:NH)(aU aq:Nat)(w:World)(h:gN w p left)(hN:nE w p.s V R aU)(bH:aU<=1000) :
  Calls prog 98 #[.pointer (some ⟨p.wb,0,none⟩),.slice R aU aq] w (uy w p.s p.A p.n p.c p.l V 2):=by
 obtain⟨s,wb,A,n,c,l,GA,gn,gc,MA,mn,mc,FA,fn,fc,M,F,ar⟩:=p;have H:=ah h hN;have ap:=h.blk.lt;have bS:=h.src.lt;simp only at ap bS;clear h hN;go_enter func98,ntmps98;exact B0
def Kj(w:World)(p:kL)(V:NI)(ps:List (ByteArray×Bool))(e:Ending)(ab:World):Prop:=
 ∃(r:eY) (IA:NH) (i ic:Nat),e=.returned (.agg #[.string r.name,.slice IA i ic])/\(∀fs,rI ⟨p.M,ps,fs⟩ V r)/\i<=ic/\Sl ab (fresh w ab) IA i (r.idx.toList.map bo)/\cu ab p.s p.A p.n p.c p.l/\Fr (λb=>b=p.s) w ab
theorem tY{x:ByteArray×Bool}:(cC x).rep w P cs↔cs=[.string x.1,.bool x.2]:=by
 exact Io
theorem vG{x:ByteArray}:(D.s x).rep w P cs↔cs=[.string x]:=by simp only[D.rep]
theorem rD(p:kL)(left:Nat)(V:NI)(R:NH)(aU aq:Nat)(a9:ByteArray)(ps:List (ByteArray×Bool))(QA:NH)(cq qc:Nat)(bQ:Value)(w:World)(h:gN w p left)(hN:nE w p.s V R aU)(bH:aU<=1000)
  (cc:Sl w (off (λb=>b=p.s) w) QA cq (ps.map cC)) (bv:cq<=2) :
  Calls prog 97 #[.pointer (some ⟨p.wb,0,none⟩),.agg #[a9,.slice QA cq qc,bQ],.slice R aU aq] w (Kj w p V ps):=by
 obtain⟨s,wb,A,n,c,l,GA,gn,gc,MA,mn,mc,FA,fn,fc,M,F,ar⟩:=p;have H:=ay h hN cc;have ap:=h.blk.lt;have bS:=h.src.lt;have aa:=h.nm;have aT:M.length=mn:=by have:=h.ms.1;simpa using this
 simp only at ap bS aa;clear h hN cc;go_enter func97,ntmps97;go_wp2_with(fail);generalize be:World.alloc _ _=W;have aF:=g0 be;have cg:=e5 be;have bG:=eT be;have cZ:W=w.heap.size+1+1:=by rw[<-be];simp
 have al:=ay aF cg bG;clear be aF cg bG;obtain⟨eE,L⟩:∃eE:Nat->List D,eE=λj=>(M.take j).map λm=>D.s m.name:=⟨_,rfl⟩
 have bP:eE 0=[]:=by rw[L];rfl
 have bf:∀j m,M[j]?=some m->eE (j+1)=eE j++[.s m.name]:=λj m h=>by rw[L];simp only;rw[List.take_add_one,h];simp
 obtain⟨a3,aD,bC⟩:=eU L bP bf;clear L bP bf;go_loopw [7,8] (λhk b5 wr=>∃(k:Nat) (cr:NH) (rc:Nat),k<=mn/\b5=.int .i64 k/\hk=.slice cr k rc/\Ext W wr/\Gr (λ_=>False) (w.heap.size+1+1) 9 1 wr cr k rc (eE k)) (λ_ b5 _=>mn - (intOf b5).toNat)
 case atStart=>exact⟨0,none,0,Nq _,rfl,rfl,NC,by rw[aD.o];exact Gr.nil _ _ _ _ _⟩
 case round=>
  obtain⟨k,cr,rc,aj,rfl,rfl,aF,hG⟩:=hrel;obtain⟨bk,I⟩:=aJ aF hG;have J:=H.1.aj (al.1.trans aF);obtain⟨a0,ak,af⟩:=J.blk.two;by_cases cG:k<mn
  .obtain⟨b,o,m,cs,aE,O,hm,ba,bu,hc⟩:=Sl.g1 (z:=3) J.ms (λ_=>rfl) cG;simp only at aE;subst aE;obtain rfl:=fv.1 ba;have c0:=hc 0 _ rfl;simp only[Nd] at c0;have dX:=ae hm;have bE:(0:Int)<=(k:Int):=ad;have ce:(k:Int)<(mn:Int):=ad;have b3:w+1+1<=wr.heap.size:=by have:=aF.size;omega
   clear aF hG J ba hc bu hm;go_wp2_with((at_builtin;refine bJ kQ rfl (.tmp 23) (.tmp 33) rfl I.o (vG.2 rfl) rfl rfl rfl ad ad b3 ?_;intro aV c2 aW ao aA ci b8;have b7:=ah ao aA;clear ao aA ci b8));have a7:Ext W aW:=bk.eW (b7.2.below bk.size λj bi O=>by have:=(I.lt O).1;omega);have a8:=ae a7;clear a7;go_roundw
   case rel=>exact⟨k+1,aV,c2,ad,by go_num,rfl,a8.o,by rw[bC.o k m dX.o];exact b7.1⟩
   case measure=>exact aH
  .obtain rfl:k=mn:=ad;have bI:Gr (λ_=>False) (w.heap.size+1+1) 9 1 wr cr k rc ((M.map (·.name)).map D.s):=by
    have:=I.o;rw[a3.o] at this;simp only at this;rw[Nb ad] at this;rw[List.map_map];exact this
   have bx:=ae bI;clear aF hG J I bI a3 aD bC;go_wp2_with(fail);go_loopw [7,10] (λhk b5 wr=>∃(j:Nat) (cr:NH) (rc:Nat) (a6:NI),j<=cq/\b5=.int .i64 j/\hk=.slice cr (k+a6.length) rc/\a6.length<=2*j/\(∀x∈a6,(x,true)∈ps)/\Ext W wr/\Gr (λ_=>False) (w.heap.size+1+1) 9 1 wr cr (k+a6.length) rc ((M.map (·.name)++a6).map D.s)) (λ_ b5 _=>cq - (intOf b5).toNat)
   case atStart=>exact⟨0,cr,rc,[],Nq _,rfl,rfl,by simp,(λx hx=>by cases hx),bk.o,by rw[Nt];exact bx.o⟩
   case round=>
    obtain⟨j,cr,rc,a6,bi,rfl,rfl,cN,aB,aF,hG⟩:=hrel;clear bx bk;obtain⟨bk,I,ab⟩:=eU aF hG aB;have b3:w+1+1<=wr.heap.size:=by have:=aF.size;omega
    by_cases cG:j<cq
    .obtain⟨d0,aQ,aS⟩:=(al.2.1.aj aF).two;obtain⟨b,o,q,cs,bK,O,hm,ba,bu,hc⟩:=Sl.g1 (z:=2) (Sl.cD H.2.2 ((al.1.trans aF).mono (M':=λb=>b=s) λ_ h=>h.elim)) (λ_=>rfl) cG;subst bK;obtain rfl:=tY.1 ba;have c0:=hc 0 _ rfl;have c1:=hc 1 _ rfl;simp only[Nd] at c0;have dX:=ae hm;have T:=O.1;have cO:(0:Int)<=(j:Int):=ad;have fq:(j:Int)<(cq:Int):=ad;clear aF hG ba hc bu hm aB O;obtain⟨q1,cL⟩:=q
     cases cL with
     | false=>
      go_wp2_with(fail);go_roundw
      case rel=>exact⟨j+1,cr,rc,a6,ad,by go_num,rfl,ad,ab.o,bk.o,I.o⟩
      case measure=>exact aH
     | true=>
      go_upto_region 11 with(fail);refine eJ (λ_=>False) [(0,3),(1,3),(2,0),(3,3),(4,3),(5,3),(6,0),(7,3),(8,0),(9,3),(10,3),(11,3),(12,0),(13,2),(14,2),(15,3)] ?_
      iterate 2 refine pf ?_
      refine ph ?_
      iterate 3 refine pf ?_
      refine ph ?_;refine pf ?_;refine ph ?_
      iterate 3 refine pf ?_
      refine ph ?_;refine au rfl (λK hK=>?_);go_simp;refine dY hK ?_;clear hK K;generalize cA:World.drew (World.alloc _ _)=Z;have bd:=hy cA;have bm:=lW cA;have aw:Src Z 1 (some ⟨wr,0,none⟩) 2 [q1,q1]:=⟨rfl,λu hu=>by
       simp only[Nk,List.not_mem_nil,or_false] at hu;rcases hu with rfl|rfl<;>rfl,λ_=>⟨_,0,rfl,λj u bi=>by rw[Nm,bm.cell];simpa using bi⟩⟩
      have bc:=I.aj bd;have bZ:=bd.size;clear cA d0 aQ aS c0 c1;refine au rfl (λK hK=>?_);rw[if_pos (by rfl)];refine yb kQ (.tmp 50) (.tmp 63) (by rfl) bc (m:=2) (k:=[D.s q1,D.s q1]) (cx.2 ⟨_,rfl,cx.2 ⟨_,rfl,aR.2 rfl⟩⟩) rfl aw (λh=>by cases h) (by rfl) (by rfl) ad ad ad ?_;intro aV c2 aW ao aA ci b8;have a7:Ext W aW:=(bk.trans bd).eW (aA.below (ax bk.size) λi aN O=>by have:=(I.lt O).1;omega);have b7:=ah ao a7;clear ao aA ci b8 a7 bc bd bm aw;refine dY hK ?_;clear hK K;refine pf ?_;refine aG ?_;go_wp2_with(fail);go_roundw
      case rel=>
       refine⟨j+1,aV,c2,a6++[q1,q1],ad,by go_num,by simp[Nat.add_assoc],by simp;omega,?_,b7.2,?_⟩
       .intro x hx;rcases Nc.1 hx with hx|hx
        .exact ab.o x hx
        .simp at hx;subst hx;exact M4 dX.o
       .have:=b7.1;rw[<-List.append_assoc,Na,M3];exact this
      case measure=>exact aH
    .obtain rfl:j=cq:=ad;have J:=H.1.aj (al.1.trans aF);obtain⟨a0,ak,af⟩:=J.blk.two;obtain⟨d0,aQ,aS⟩:=(al.2.1.aj aF).two;have b4:1<=k+a6.length/\k+a6.length<=8:=ad;have bl:=ae J;clear aF hG aB J;go_wp2_with(fail);refine(aZ wr s A n c l ((k+a6.length:Nat):Int) bl.src ad ad).mono ?_;rintro e aO ⟨cS,rfl,N,cd,h,he⟩;obtain⟨i3,rfl⟩:=M6 N;have e1:i3<k+a6.length:=ad;have bX:s<w:=bS;have bj:=bl.next h he.fr;have az:Fr (λb=>b=s) w aO:=((al.1.trans bk.o).mono λ_ h=>h.elim).trans he.fr;have r:=I.cD he.fr (λb O _=>⟨λh=>h,ad⟩);have bG:=(al.2.2.aj bk.o).on he.fr (λh=>ad);have H1:=br bj az r bG;have aC:Sl aO (av aO) cr (k+a6.length) ((M.map (·.name)++a6).map D.s):=r.sl (λ_ _ h=>h.elim) (λ_ h _=>h);obtain⟨b,o,x,cs,bO,O,hm,ba,bu,hc⟩:=Sl.g1 (z:=1) aC (λ_=>rfl) e1;subst bO;obtain rfl:=vG.1 ba;have c0:=hc 0 _ rfl;simp only[Nat.mul_one,Nd] at c0;have dX:=ae hm;have bV:(0:Int)<=(i3:Int):=ad;have bY:(i3:Int)<((k+a6.length:Nat):Int):=ad;clear h he bj az r aC ba hc bu hm a0 ak af d0 aQ aS bl N cd bG;go_upto_region 14 with(fail);generalize hX:World.alloc _ _=X;have bt:=aX hX;have cb:=aL hX;have b2:w+1+1<=aO.heap.size:=by have:=H1.2.2.2.lt;omega
     have b1:=cQ (H1.1.aj bt) (H1.2.1.trans (bt.mono λ_ h=>h.elim)) (H1.2.2.2.aj bt) cb (H.2.1.on (H1.2.1.trans (bt.mono λ_ h=>h.elim)));clear hX bt cb H1 c0;obtain⟨a0,ak,af⟩:=b1.1.blk.two;obtain⟨bs,am,aK⟩:=b1.2.2.1.two;obtain⟨d0,aQ,aS⟩:=b1.2.2.2.1.two;have gR:¬wb=s:=by have:=b1.1.ne;simp only at this;omega
     by_cases bw:i3<k
     .obtain⟨ht,bF,m,cs,aE,bU,P,ba,bu,hc⟩:=Sl.g1 (z:=3) b1.1.ms (λ_=>rfl) bw;simp only at aE;subst aE;obtain rfl:=fv.1 ba;have c2:=hc 2 _ rfl;have ag:x=m.name:=by
       have:=dX.o;rw[List.getElem?_append_left (by simp;omega),List.getElem?_map,P] at this;injection this with this;exact this.symm
      have bp:m∈M:=M4 P;have aP:=b1.1.gV m bp;have aM:=ah ag bp;have bN:(i3:Int)<(k:Int):=ad;clear ba hc bu P ag bp bU;by_cases U:0<m.size
      .go_wp2_with(fail);refine(zN ⟨s,wb,A,n,c,l,GA,gn,gc,_,k,mc,FA,fn,fc,M,F,ar⟩ left V R aU aq m.size U aP.2 X b1.1 b1.2.2.2.2 bH).mono ?_;rintro e b6 ⟨y,c8,da,db,rfl,bb,c5,cX,aw,ai⟩;simp only at aw ai;have b0:=b1.2.2.1.on ai ad;have cE:=b1.2.2.2.1.on ai ad;have a2:=b1.2.1.trans ai;have dt:=ai.size;clear a0 ak af bs am aK d0 aQ aS c2;obtain⟨bs,am,aK⟩:=b0.two;obtain⟨d0,aQ,aS⟩:=cE.two;have bB:=hz bb c5 cX aw a2 b0 cE;clear bb c5 cX aw a2 ai b0 cE;go_upto_region 16 with(fail);generalize cA:World.setCell _ _ _=Z;have bZ:Z=b6.heap.size:=by rw[<-cA];simp
       generalize hQ:World.alloc _ _=Q;have a4:=cP cA;have S:=aX hQ;have aI:an Q b6 37 #[.int .i64 y.a5,.int .i64 y.numOf,.string y.bw,.slice c8 da db]:=hQ▸an.gF _ _ _ bZ.symm;have bL:an Q aO 172 #[x,.slice (some ⟨b6,0,none⟩) 1 1]:=by
        have ac:an Z aO 172 #[x,.slice (some ⟨b6,0,none⟩) 1 1]:=cA▸bB.2.2.2.2.2.2.aK 1 _;exact ac.aj S
       have bn:=((bB.2.2.2.2.2.1.on a4 ad).aj S)
       have bD:Fr (λb=>b=s) w Q:=(bB.2.2.2.2.1.eW (a4.below bB.2.2.2.2.1.size λi aN h=>ad)).trans (S.mono λ_ h=>h.elim);have bg:cu Q s A n c l:=(bB.2.2.2.1.cZ a4 λb O h=>ad).cZ S λ_ _ h=>h;have dM:aO<X.heap.size:=b1.2.2.2.1.lt;have bh:Sl Q (fresh X Q) c8 da (y.args.map bo):=(bB.2.2.1.ak λb O=>(S.block b (ax O.2) λh=>h).trans (a4.block b O.2 (ax O.1))).mono λb O=>⟨O.1,by have:=O.2;have:=S.size;omega⟩
       have bW:=cQ aI bn bD bg bh;have b9:=aI.lt;clear bs am aK d0 aQ aS;obtain⟨bs,am,aK⟩:=bn.two;obtain⟨d0,aQ,aS⟩:=bL.two;clear cA hQ a4 S aI bL bn bD bg bh;go_wp2_with(fail);generalize co:World.setCell _ _ _=Y;obtain⟨bM,bA,bz⟩:=eg (M:=λb=>b=s) [x,.slice (some ⟨b6,0,none⟩) 1 1] (by rfl) bW.2.1 bW.2.2.1 ad co;obtain⟨bq,a1,a5⟩:=bM.two;refine NB (v:=.agg #[x,.slice (some ⟨b6,0,none⟩) 1 1]) (by simp[results,Tryz.results97,go_sem,bq]) rfl ?_;obtain⟨aI,_,_,bg,bh⟩:=bW.o;have bT:Sl Y (fresh w Y) c8 da (y.args.map bo):=(bh.ak λb O=>bz.block b O.2 (ax O.1)).mono λb O=>⟨by have:=O.1;omega,M0 O.2 bz.size⟩
       refine⟨⟨x,some y⟩,some ⟨b6,0,none⟩,1,1,rfl,λfs=>.inl ⟨m,aM.2,aM.1.symm,λ_=>⟨y,rfl,bB.1⟩,λh=>absurd U h⟩,MU _,?_,bg.cZ bz (λb O h=>ad),bA⟩;exact Sl.nY (aI.on bz ad) (D.bx.2 (aY.2 ⟨c8,da,db,rfl,bB.2.1,bT⟩)) ⟨ad,by have:=bz.size;omega⟩ rfl
      .go_wp2_with(fail);generalize co:World.setCell _ _ _=Y;obtain⟨bM,bA,bz⟩:=eg (M:=λb=>b=s) [x,()] (by rfl) b1.2.2.1 b1.2.1 ad co;obtain⟨bq,a1,a5⟩:=bM.two;refine NB (v:=.agg #[x,()]) (by simp[results,Tryz.results97,go_sem,bq]) rfl ?_;exact⟨⟨x,none⟩,none,0,0,rfl,λfs=>.inl ⟨m,aM.2,aM.1.symm,λh=>absurd h ad,λ_=>rfl⟩,MU _,Sl.bY _,b1.1.src.cZ bz (λb O h=>by simp only at O;omega),bA⟩
     .have bN:¬(i3:Int)<(k:Int):=ad;go_wp2_with(fail);generalize co:World.setCell _ _ _=Y;obtain⟨bM,bA,bz⟩:=eg (M:=λb=>b=s) [x,()] (by rfl) b1.2.2.1 b1.2.1 ad co;obtain⟨bq,a1,a5⟩:=bM.two;refine NB (v:=.agg #[x,()]) (by simp[results,Tryz.results97,go_sem,bq]) rfl ?_;have bR:x∈a6:=by
       have:=dX.o;rw[List.getElem?_append_right (by simp;omega)] at this;exact M4 this
      exact⟨⟨x,none⟩,none,0,0,rfl,λfs=>.inr ⟨ab.o x bR,rfl⟩,MU _,Sl.bY _,b1.1.src.cZ bz (λb O h=>by simp only at O;omega),bA⟩
theorem tj:cq prog 173 203 (.agg #[false,NF,(),(0:Int),(0:Int),NF,()]) 7 104:=cq.mk' Tryz.underlying173 (by kernel_rfl) rfl ad
theorem y0{IA:NH}{i ic:Nat}(h:Sl w P IA i (r.idx.toList.map bo))(hc:i<=ic):(eP (.mx r)).rep w P [true,.string r.name,.slice IA i ic,(0:Int),(0:Int),NF,()]:=by
 unfold eP;rw[bK];exact fE.2 ⟨_,rfl,hb.2 ⟨[.string r.name,.slice IA i ic],_,rfl,jR.2 ⟨IA,i,ic,rfl,hc,h⟩,D.bx.2 (fy.2 ⟨none,0,rfl⟩)⟩⟩
theorem Hu{x:VE}{cW:NH}{bh cY:Nat}(h:Sl w P cW bh (x.args.map bo))(hc:bh<=cY):(eP (.ex x)).rep w P [false,NF,(),.int .i64 x.a5,.int .i64 x.numOf,.string x.bw,.slice cW bh cY]:=by
 unfold eP;rw[bK];refine fE.2 ⟨_,rfl,hb.2 ⟨[NF,()],_,rfl,?_,D.bx.2 (aY.2 ⟨cW,bh,cY,rfl,hc,h⟩)⟩⟩;exact AH
theorem ot{G:Env}{V:NI}{q:ByteArray×Bool}{a:dq}:∀(ps:List (ByteArray×Bool)) (aY:List dq),ix G V ps aY->K8 G V q a->ix G V (ps++[q]) (aY++[a])
 | [],[],_,h=>⟨h,trivial⟩
 | _::ps,_::aY,h,az=>⟨h.1,ot ps aY h.2 az⟩
 | [],_::_,h,_=>h.elim
 | _::_,[],h,_=>h.elim
def J9(w:World)(p:kL)(V:NI)(ps gs:List (ByteArray×Bool))(e:Ending)(ab:World):Prop:=
 ∃(aY:List dq) (KA:NH) (k kc:Nat),e=.returned (.slice KA k kc)/\(∀fs,ix ⟨p.M,ps,fs⟩ V gs aY)/\k<=kc/\Sl ab (fresh w ab) KA k (aY.map eP)/\cu ab p.s p.A p.n p.c p.l/\Fr (λb=>b=p.s) w ab
theorem Aj(p:kL)(left:Nat)(V:NI)(R:NH)(aU aq:Nat)(a9:ByteArray)(ps:List (ByteArray×Bool))(QA:NH)(cq qc:Nat)(bQ:Value)(m:ByteArray)(gs:List (ByteArray×Bool))(bI:NH)(bU bx:Nat)(u:Value)(w:World)(h:gN w p left)(hN:nE w p.s V R aU)(bH:aU<=1000)
  (cc:Sl w (off (λb=>b=p.s) w) QA cq (ps.map cC)) (bv:cq<=2) (bB:Sl w (off (λb=>b=p.s) w) bI bU (gs.map cC)) (cD:bU<=2) :
  Calls prog 99 #[.pointer (some ⟨p.wb,0,none⟩),.agg #[a9,.slice QA cq qc,bQ],.agg #[m,.slice bI bU bx,u],.slice R aU aq] w (J9 w p V ps gs):=by
 obtain⟨s,wb,A,n,c,l,GA,gn,gc,MA,mn,mc,FA,fn,fc,M,F,ar⟩:=p;have ap:=h.blk.lt;have bS:=h.src.lt;have cv:gs.length=bU:=by have:=bB.1;simpa using this
 simp only at ap bS;have H:=br h hN cc bB;clear h hN cc bB;go_enter func99,ntmps99;go_wp2_with(fail);generalize be:World.alloc _ _=W;have aF:=g0 be;have cg:=e5 be;have bG:=eT be;have cZ:W=w.heap.size+1+1:=by rw[<-be];simp
 have al:=br (H.1.aj aF) (aF.mono (M':=λb=>b=s) λ_ h=>h.elim) cg bG;clear be aF cg bG;go_loopw [9,10] (λU b5 wr=>∃(j:Nat) (cr:NH) (rc:Nat) (aY:List dq),j<=bU/\b5=.int .i64 j/\U=.slice cr j rc/\(∀fs,ix ⟨M,ps,fs⟩ V (gs.take j) aY)/\gN wr ⟨s,wb,A,n,c,l,GA,gn,gc,MA,mn,mc,FA,fn,fc,M,F,ar⟩ left/\Fr (λb=>b=s) w wr/\an wr w 118 #[a9,.slice QA cq qc,bQ]/\an wr (w.heap.size+1) 118 #[m,.slice bI bU bx,u]/\
  Gr (λb=>w.heap.size<=b) (w.heap.size+1+1) 203 7 wr cr j rc (aY.map eP)) (λ_ b5 _=>bU - (intOf b5).toNat)
 case atStart=>exact⟨0,none,0,[],Nq _,rfl,rfl,λfs=>trivial,al.1,al.2.1,al.2.2.1,al.2.2.2,Gr.nil _ _ _ _ _⟩
 case round=>
  obtain⟨j,cr,rc,aY,bi,rfl,rfl,aI,J,hF,b2,bn,hG⟩:=hrel;clear al;have a3:=cQ J hF b2 bn hG;have ax:=ae aI;obtain⟨d0,aQ,aS⟩:=bn.two;obtain⟨e0,a6,ag⟩:=b2.two;by_cases cG:j<bU
  .obtain⟨b,o,q,cs,eK,O,hm,ba,bu,hc⟩:=Sl.g1 (z:=2) (Sl.cD H.2.2.2 hF) (λ_=>rfl) cG;subst eK;obtain rfl:=tY.1 ba;have c1:=hc 1 _ rfl;have dX:=ae hm;have cO:(0:Int)<=(j:Int):=ad;have fq:(j:Int)<(bU:Int):=ad;have mL:=hF.size;clear ba hc bu hm O J hF b2 bn hG aI;obtain⟨q1,cL⟩:=q;simp only at c1
   cases cL with
   | true=>
    go_wp2_with(fail);refine(rD ⟨s,wb,A,n,c,l,GA,gn,gc,MA,mn,mc,FA,fn,fc,M,F,ar⟩ left V R aU aq a9 ps QA cq qc bQ wr a3.1 (H.2.1.on a3.2.1) bH (Sl.cD H.2.2.1 a3.2.1) bv).mono ?_;rintro e aW ⟨r,IA,i,ic,rfl,aN,aM,au,aw,ai⟩;simp only at aN aw ai;have bo:=a3.2.2.2.2.cD ai (λb O _=>⟨ad,ad⟩);have hd:(eP (.mx r)).rep aW (lD (λb=>w.heap.size<=b) aW (.slice cr j rc)) [true,.string r.name,.slice IA i ic,(0:Int),(0:Int),NF,()]:=
     y0 (au.mono λb O=>⟨by have:=O.1;omega,O.2,λh=>by have:=(a3.2.2.2.2.lt h).2;have:=O.1;omega⟩) aM
    have b1:=dH (a3.1.next aw ai) (a3.2.1.trans ai) (a3.2.2.1.on ai ad) (a3.2.2.2.1.on ai ad) bo hd;have g:=ae aN;have b3:w+1+1<=aW.heap.size:=by have:=ai.size;omega
    clear d0 aQ aS e0 a6 ag c1 bo hd ai aw au aM aN a3;go_wp2_with((at_builtin;refine bJ tj rfl (.tmp 24) (.tmp 30) rfl b1.2.2.2.2.1 b1.2.2.2.2.2 rfl rfl rfl ad ad b3 ?_;intro aV c2 b6 ao aA ci b8;have b7:=ah ao aA;clear ao aA ci b8));have bp:∀b,(Value.slice cr j rc).ownBlock=some b->w.heap.size+1+1<=b:=λb O=>(b1.2.2.2.2.1.lt O).1;have bf:Fr (λb=>b=s) w b6:=b1.2.1.eW (b7.2.below b1.2.1.size λk aj h=>by have:=bp k h;omega);have cx:gN b6 ⟨s,wb,A,n,c,l,GA,gn,gc,MA,mn,mc,FA,fn,fc,M,F,ar⟩ left:=(H.1).next (b1.1.src.cZ b7.2 λb O h=>by have:=bp b h;simp only at O;omega) bf;have bZ:=cQ cx bf (b1.2.2.1.on b7.2 (λh=>by have:=bp _ h;omega)) (b1.2.2.2.1.on b7.2 (λh=>by have:=bp _ h;omega)) b7.1;clear bp bf cx;go_roundw
    case rel=>
     refine⟨j+1,aV,c2,aY++[.mx r],ad,by go_num,rfl,λfs=>?_,bZ.1,bZ.2.1,bZ.2.2.1,bZ.2.2.2.1,by rw[Na];exact bZ.2.2.2.2⟩;rw[List.take_add_one,dX.o];exact ot _ _ (ax.o fs) ⟨rfl,g.o fs⟩
    case measure=>exact aH
   | false=>
    go_wp2_with(fail);refine(j6 ⟨s,wb,A,n,c,l,GA,gn,gc,MA,mn,mc,FA,fn,fc,M,F,ar⟩ left V R aU aq wr a3.1 (H.2.1.on a3.2.1) bH).mono ?_;rintro e aW ⟨x,cW,bh,cY,rfl,aN,aM,au,aw,ai⟩;simp only at aw ai;have bo:=a3.2.2.2.2.cD ai (λb O _=>⟨ad,ad⟩);have hd:(eP (.ex x)).rep aW (lD (λb=>w.heap.size<=b) aW (.slice cr j rc)) [false,NF,(),.int .i64 x.a5,.int .i64 x.numOf,.string x.bw,.slice cW bh cY]:=
     Hu (au.mono λb O=>⟨by have:=O.1;omega,O.2,λh=>by have:=(a3.2.2.2.2.lt h).2;have:=O.1;omega⟩) aM
    have b1:=dH (a3.1.next aw ai) (a3.2.1.trans ai) (a3.2.2.1.on ai ad) (a3.2.2.2.1.on ai ad) bo hd;have g:=ae aN;have b3:w+1+1<=aW.heap.size:=by have:=ai.size;omega
    clear d0 aQ aS e0 a6 ag c1 bo hd ai aw au aM aN a3;go_wp2_with((at_builtin;refine bJ tj rfl (.tmp 32) (.tmp 37) rfl b1.2.2.2.2.1 b1.2.2.2.2.2 rfl rfl rfl ad ad b3 ?_;intro aV c2 b6 ao aA ci b8;have b7:=ah ao aA;clear ao aA ci b8));have bp:∀b,(Value.slice cr j rc).ownBlock=some b->w.heap.size+1+1<=b:=λb O=>(b1.2.2.2.2.1.lt O).1;have bf:Fr (λb=>b=s) w b6:=b1.2.1.eW (b7.2.below b1.2.1.size λk aj h=>by have:=bp k h;omega);have cx:gN b6 ⟨s,wb,A,n,c,l,GA,gn,gc,MA,mn,mc,FA,fn,fc,M,F,ar⟩ left:=(H.1).next (b1.1.src.cZ b7.2 λb O h=>by have:=bp b h;simp only at O;omega) bf;have bZ:=cQ cx bf (b1.2.2.1.on b7.2 (λh=>by have:=bp _ h;omega)) (b1.2.2.2.1.on b7.2 (λh=>by have:=bp _ h;omega)) b7.1;clear bp bf cx;go_roundw
    case rel=>
     refine⟨j+1,aV,c2,aY++[.ex x],ad,by go_num,rfl,λfs=>?_,bZ.1,bZ.2.1,bZ.2.2.1,bZ.2.2.2.1,by rw[Na];exact bZ.2.2.2.2⟩;rw[List.take_add_one,dX.o];exact ot _ _ (ax.o fs) ⟨rfl,g.o⟩
    case measure=>exact aH
  .obtain rfl:j=bU:=ad;clear J hF b2 bn hG aI;go_wp2_with(fail);go_ret;have ac:=ax.o;rw[Nb ad] at ac;exact⟨aY,cr,j,rc,rfl,ac,a3.2.2.2.2.cap.1,a3.2.2.2.2.sl (λb h hp=>⟨hp,h⟩) (λb h hp=>⟨ad,h⟩),a3.1.src,a3.2.1⟩
def lA(n:Nat):Code->Option Code
 | .block k c=>if k=n then some c else lA n c
 | .seq a b=>match lA n a with
  | some c=>some c
  | none=>lA n b
 | .loop c=>lA n c
 | .scope c=>lA n c
 | _=>none
noncomputable def x8:Code:=((Tryz.f68.body.bind gj).getD .skip)
noncomputable def F9:Code:=((lA 2 x8).getD .skip)
noncomputable def JL:Code:=match F9 with
 | .seq a _=>a
 | c=>c
noncomputable def JO:Code:=match F9 with
 | .seq _ b=>b
 | _=>.skip
def kL.env(p:kL)(ps:List (ByteArray×Bool)):Env:=⟨p.M,ps,p.F.map λf=>(f.name,f.params)⟩
structure pk(p:kL)(S w:World)(L:Nat):Prop where
 src:cu w p.s p.A p.n p.c p.l
 blk:an w p.wb 156 #[.pointer (some ⟨p.s,0,none⟩),.slice p.GA p.gn p.gc,.slice p.MA p.mn p.mc,.slice p.FA p.fn p.fc,.int .i64 L,.bool p.ar]
 fr:Fr p.MW S w
 le:L<=24
theorem pk.wr{p:kL}{b5:Nat}(h0:gN S p b5)(h:pk p S w L):gN w p L:=
 ⟨h.src,h.blk,h0.ne,Sl.cD h0.ms h.fr,Sl.cD h0.fs h.fr,h0.nm,h0.nf,h0.gV,h0.jo,h.le⟩
theorem pk.next{p:kL}(h:pk p S w L)(bl:p.s<p.wb)(hs:cu ab p.s p.A p.n p.c p.l)(O:Fr (λb=>b=p.s) w ab):pk p S ab L:=
 ⟨hs,h.blk.on O ad,h.fr.trans (O.mono λ_ h=>.inl h),h.le⟩
theorem pk.aj{p:kL}(h:pk p S w L)(bl:p.s<p.wb)(O:Ext w ab):pk p S ab L:=h.next bl (h.src.cZ O λ_ _ h=>h) (O.mono λ_ h=>h.elim)
theorem pk.fresh{p:kL}{b5:Nat}(h:pk p S w L)(h0:gN S p b5)(O:Fr M w ab)(hM:∀b,M b->S.heap.size<=b):pk p S ab L:=by
 have ac:=h0.src.lt;have az:=h0.blk.lt;exact⟨h.src.cZ O λb b2 hm=>by have:=hM b hm;omega,h.blk.on O λhm=>by have:=hM _ hm;omega,h.fr.eW (O.below h.fr.size λk aj hm=>by have:=hM k hm;omega),h.le⟩
theorem pk.JA{p:kL}{Y:Nat}(h:pk p S w L)(hw:gN ab p Y)(O:Fr p.MW w ab):pk p S ab Y:=⟨hw.src,hw.blk,h.fr.trans O,hw.k0⟩
def HR(p:kL)(d:Nat)(V T:NI)(ps:List (ByteArray×Bool))(L:Nat)(w:World)(e:Ending)(ab:World):Prop:=
 ∃(ls:List aB) (Y:Nat) (bL:NH) (on bF:Nat),e=.returned (.slice bL on bF)/\Made (p.env ps) d V T L Y ls/\on<=bF/\Sl ab (fresh w ab) bL on (ls.map bk)/\gN ab p Y/\Fr p.MW w ab
def JZ(p:kL)(L:Nat):Prop:=∀(d f:Nat) (V T:NI) (R:NH) (aU aq:Nat) (a9:ByteArray) (ps:List (ByteArray×Bool)) (QA:NH) (cq qc:Nat) (bQ:Value) (w:World),d<=2->f<=6->gN w p L->Sl w (off p.MW w) R aU (V.map D.s)->V.length+L<=60->mM T L->
 Sl w (off p.MW w) QA cq (ps.map cC)->cq<=2->Calls prog 68 #[.pointer (some ⟨p.wb,0,none⟩),.agg #[.string a9,.slice QA cq qc,bQ],.slice R aU aq,.int .i64 (d:Int),.int .i64 (f:Int)] w (HR p d V T ps L w)
def ho(p:kL)(ck B:Nat)(eE bi:Value)(d:Nat)(ps:List (ByteArray×Bool))(V T:NI)(ls:List aB)(N:Int)(S:World)(L:Nat)(av:World)(a9:ByteArray)(QA:NH)(cq qc:Nat)(bQ:Value)(be:NH)(bp bC:Nat)(bL:NH)(on bF:Nat)(w:World):Prop:=∃(a1:NI) (m:List aB) (st:aB) (a6:Nat) (cs:List Value),
 pk p av w a6/\an w ck 118 #[.string a9,.slice QA cq qc,bQ]/\lS B 9 1 175 11 w be bp bC (a1.map D.s) bL on bF ((ls++m).map bk)/\an w S.heap.size 175 cs.toArray/\(bk st).rep w (lD (λb=>B<=b/\(Value.slice be bp bC).ownBlock≠some b) w (.slice bL on bF)) cs/\
 eX (p.env ps) d (V++decls ls) (T++decls ls) (.eV (m++[st]))/\(∀n∈(al.eV (m++[st])).all,∃k,a6<=k/\k<L+1/\n=hW k)/\(al.eV (m++[st])).num<=2*(L+1 - a6)/\a6<=L/\a1 ⊆ V++decls (ls++(m++[st]))/\a1.length+a6<=60/\on<=12000
def l8(p:kL)(ck B:Nat)(eE bi:Value)(d:Nat)(ps:List (ByteArray×Bool))(V T:NI)(ls:List aB)(N:Int)(S:World)(L:Nat)(av:World)(a9:ByteArray)(QA:NH)(cq qc:Nat)(bQ:Value)(a:Act)(w:World):Prop:=∃(be:NH) (bp bC:Nat) (bL:NH) (on bF:Nat) (gL o u8 gO eY aQ u16 bx bI eZ e3 e4 e5 e6 e7 e8 e9 fa fb fd fe ff u32 fh fi fj fl fm fo fp fr fs ft fu fv fw fx fy fz fA fB fD fE fF fG fH fI fJ fK fL fM fN fO fP u64 fR fS fT fU fV fW fX fY fZ f3 f4 f5 f6 f7 f8 f9 ga gb gd ge gf gg gh gi gj gk gl gm go gp gq gr gs gt gu H I am aK aM aS aX aY a4 bb bs bt bD bE bT bU b1 b9 ca cb ce cf cg ch cn cp ct cx cy cz cE cF cI cJ cK cM cN cR cS cT cV cW cX cY cZ c5 c6 c7 c8 c9 da db dc dd de df dg dh di dj dk dl dm dn dp dq dr ds dt du dv dw dx dy dA dC dD dE dF dG dH dI dJ dK dL dM dN dO dQ dR dT dU dV dW dZ d0 d1 d2 d3 d4 d5 d6 d7 d8 d9 ea eb ec ed ee ef eh ei ej ek el em en eo eq er es et eu ev ex ey ez eA eB eC eD eF eG eH eI eK eL eM eN eO eP eQ eR eS eT eU eV eW aR:Value),ho p ck B eE bi d ps V T ls N S L av a9 QA cq qc bQ be bp bC bL on bF w/\a=⟨#[.pointer (some ⟨p.wb,0,none⟩),eE,.slice be bp bC,.int .i64 (d:Int),bi,gL,.pointer (some ⟨ck,0,none⟩),o,u8,gO,eY,.slice bL on bF,.int .i64 N,.pointer (some ⟨S.heap.size,0,none⟩),aR,aQ,u16,bx,bI,eZ,e3,e4,e5,e6,e7,e8,e9,fa,fb,fd,fe,ff,u32,fh,fi,fj,fl,fm,fo,fp,fr,fs,ft,fu,fv,fw,fx,fy,fz,fA,fB,fD,fE,fF,fG,fH,fI,fJ,fK,fL,fM,fN,fO,fP,u64,fR,fS,fT,fU,fV,fW,fX,fY,fZ,f3,f4,f5,f6,f7,f8,f9,ga,gb,gd,ge,gf,gg,gh,gi,gj,gk,gl,gm,go,gp,gq,gr,gs,gt,gu,H,I,am,aK,aM,aS,aX,aY,a4,bb,bs,bt,bD,bE,bT,bU,b1,b9,ca,cb,ce,cf,cg,ch,cn,cp,ct,cx,cy,cz,cE,cF,cI,cJ,cK,cM,cN,cR,cS,cT,cV,cW,cX,cY,cZ,c5,c6,c7,c8,c9,da,db,dc,dd,de,df,dg,dh,di,dj,dk,dl,dm,dn,dp,dq,dr,ds,dt,du,dv,dw,dx,dy,dA,dC,dD,dE,dF,dG,dH,dI,dJ,dK,dL,dM,dN,dO,dQ,dR,dT,dU,dV,dW,dZ,d0,d1,d2,d3,d4,d5,d6,d7,d8,d9,ea,eb,ec,ed,ee,ef,eh,ei,ej,ek,el,em,en,eo,eq,er,es,et,eu,ev,ex,ey,ez,eA,eB,eC,eD,eF,eG,eH,eI,eK,eL,eM,eN,eO,eP,eQ,eR,eS,eT,eU,eV,eW],[]⟩
theorem ho.simple(p:kL)(ck B:Nat)(eE bi:Value)(d:Nat)(ps:List (ByteArray×Bool))(V T:NI)(ls:List aB)(N:Int)(L:Nat)(av:World)(a9:ByteArray)(QA:NH)(cq qc:Nat)(bQ:Value){a1:NI}{bp bC:Nat}{bL:NH}{bF b5:Nat}(h0:gN S p b5)(fk:p.wb<ck)(bn:ck<B)(hG:lS B 9 1 175 11 S be bp bC (a1.map D.s) bL on bF (ls.map bk))
  (hV:a1 ⊆ V++decls ls) (cd:a1.length+L+1<=60) (c2:on<=10000) (aT:B<=S.heap.size) {X:World} {a6:Nat} {st:aB} {cs:List Value} (hC:pk p S X a6) (cf:an X S 175 cs.toArray) (ba:(bk st).rep X (fresh S X) cs)
  (aN:HM (p.env ps) d (V++decls ls) (T++decls ls) st) (y:∀n∈st.all,∃k,a6<=k/\k<L+1/\n=hW k) (K:st.num<=2*(L+1 - a6)) (hle:a6<=L) (a:Fr p.MW av S) (c:an S ck 118 #[a9,.slice QA cq qc,bQ]):ho p ck B eE bi d ps V T ls N S L av a9 QA cq qc bQ be bp bC bL on bF X:=by
 have bl:=h0.ne;refine⟨a1,[],st,a6,cs,⟨hC.src,hC.blk,a.trans hC.fr,hC.le⟩,c.on hC.fr (λh=>by rcases h with h|h<;>omega),?_,cf,?_,?_,?_,?_,hle,?_,ad,ad⟩
 .rw[Nt];exact hG.cD hC.fr λb O _=>by rcases O with O|O<;>omega
 .exact D.aM (λb O=>⟨⟨by have:=O.1;omega,λh=>by have:=(hG.one.lt h).2;have:=O.1;omega⟩,O.2,λh=>by have:=(hG.two.lt h).2;have:=O.1;omega⟩) _ _ ba
 .exact uq.2 aN
 .rw[Nu,all_cons];intro n hn;rcases Nc.1 hn with hn|hn
  .exact y n hn
  .simp[al.eV,al.all] at hn
 .rw[Nu,tS];exact K
 .intro x hx;have:=hV hx;exact A9
theorem FL{f:aI}(h:(dA f).rep w P cs):∃(A:NH) (n c:Nat) (A2:NH) (n2 c2:Nat),cs=[.string f.name,.slice A n c,.slice A2 n2 c2]/\n<=c/\Sl w P A n (f.params.map cC):=by
 unfold dA at h;rw[bK,cx] at h;obtain⟨y,rfl,h⟩:=h;obtain⟨A,n,c,cf,rfl,hc,hs,h⟩:=aN.1 h;obtain⟨A2,n2,c2,bv,rfl,b8,bO,h⟩:=aN.1 h;rw[aR] at h;subst h;exact⟨A,n,c,A2,n2,c2,rfl,hc,hs⟩
theorem pr:cq prog 116 175 (.agg #[(0:Int),NF,(0:Int),(0:Int),NF,(),NF,(),(),(),()]) 11 192:=cq.mk' Tryz.underlying116 (by kernel_rfl) rfl ad
theorem GS{G:Env}{d:Nat}{a1 aU T:NI}{R:List aB}(ba:rI G a1 r)(hV:a1 ⊆ aU)(ac:eX G 0 a1 T (.eV R)):eX G d aU T (.eV ((.lock false r::R)++[.lock true r])):=by
 rw[Nj,nA];refine⟨la hV ba,?_⟩;simp only[aB.decl,Nt];exact uo.2 ⟨dn _ 0 d a1 _ _ _ hV (λ_ _ h=>h) (Nq _) ac,uq.2 (la (λx hx=>Nc.2 (.inl (hV hx))) ba)⟩
theorem bf{P:Program}{ops:Array Oper}{Q:Exit->Act->World->Prop}{R:World->World->Prop}{tails:List Nat}{rest:PT}{a:Act}{W:World}(C:World->Prop)(hC:C W)(h:∀V,C V->cY P ops Q R tails rest a V):cY P ops Q R tails rest a W:=h W hC
structure rG(p:kL)(S wr:World)(L:Nat)(cs:Array Value)(V:World):Prop where
 c:pk p S V L
 s:an V S.heap.size 175 cs
 f:Fr (λb=>b=p.s\/b=S.heap.size) wr V
theorem rG.aj{p:kL}{S wr V aU:World}{L:Nat}{cs:Array Value}(h:rG p S wr L cs V)(bl:p.s<p.wb)(O:Ext V aU):rG p S wr L cs aU:=⟨h.c.aj bl O,h.s.aj O,h.f.trans (O.mono λ_ h=>h.elim)⟩
theorem rG.call{p:kL}{wr V aU:World}{cs:Array Value}(h:rG p S wr L cs V)(bl:p.s<p.wb)(bn:p.s<S.heap.size)(hs:cu aU p.s p.A p.n p.c p.l)(O:Fr (λb=>b=p.s) V aU):rG p S wr L cs aU:=⟨h.c.next bl hs O,h.s.on O ad,h.f.trans (O.mono λ_ h=>.inl h)⟩
theorem rG.aK{p:kL}{S wr V:World}{L b5:Nat}{cs:Array Value}(h:rG p S wr L cs V)(h0:gN S p b5)(i:Nat)(v:Value):rG p S wr L (cs.setIfInBounds i v) (V.setCell ⟨S,i,none⟩ v):=
 ⟨h.c.fresh (M:=λb=>b=S.heap.size) h0 ((Fr.refl (λb=>b=S.heap.size) V).setCell (.inl rfl) _) (λb O=>ad),h.s.aK i v,h.f.setCell (.inl (.inr rfl)) _⟩
theorem mS(V:World)(g:Nat)(v1 v2:Int)(h0:V.cell? ⟨g,0,none⟩=some (.int .u8 v1))(ac:V.cell? ⟨g,1,none⟩=some (.int .u8 v2)) :
  (convert 65 9 (.slice (some ⟨g,0,none⟩) 2 2)).run prog V=.ok (.string (strOf [byteOf v1,byteOf v2])) V:=by
 have:=run_convert_bytes_arg (P:=prog) V 65 5 Tryz.underlying65 Tryz.underlying5 g 0 2 2 [v1,v2] rfl (λi aN=>by
  obtain rfl|rfl:i=0\/i=1:=ad
  .exact h0
  .exact ac) 9 Tryz.underlying9
 rw[this];rfl
theorem v9{r t:Int}(bx:L<=24)(ac:IntKind.u8.wrap (IntKind.i64.wrap (97+(L:Int)))=r)(az:IntKind.u8.wrap (IntKind.i64.wrap (97+Int.tmod (IntKind.i64.wrap 0) 26))=t):(⟨#[118]⟩++strOf [byteOf r,byteOf t]:ByteArray)=hW L:=by
 subst ac az;have h:∀k:Fin 25,(⟨#[118]⟩++strOf [byteOf (IntKind.u8.wrap (IntKind.i64.wrap (97+((k.val:Nat):Int)))),byteOf (IntKind.u8.wrap (IntKind.i64.wrap (97+Int.tmod (IntKind.i64.wrap 0) 26)))]:ByteArray)=hW k.val:=by decide
 exact h ⟨L,ad⟩
theorem vX{w:World}{P Q:Nat->Prop}:∀{l:NI} {xs:List Value},D.aQ w P (l.map D.s) xs->D.aQ w Q (l.map D.s) xs
 | [],xs,h=>by simpa only[Nr,D.aQ] using h
 | e::l,xs,h=>by
  rw[M7] at h ⊢;obtain⟨y,rfl,bb⟩:=cx.1 h;exact cx.2 ⟨y,rfl,vX bb⟩
theorem Gr.strs{Q:Nat->Prop}{e:TypeId}{A:NH}{n c:Nat}{l:NI}(h:Gr P B e 1 w A n c (l.map D.s)):Gr Q B e 1 w A n c (l.map D.s):=by
 obtain⟨hl,xs,ac,az⟩:=h;exact⟨hl,xs,ac,vX az⟩
theorem xa(s:aB):(bk s).sz=11:=by
 cases s<;>simp[bk,gW,D.sz,D.Af,c7,j7,gv,kW]
theorem mF:j7.rep w P [(0:Int),(0:Int),NF,()]:=fy.2 ⟨none,0,rfl⟩
theorem k5:gv.rep w P [NF,()]:=by
 exact AH
theorem eI{k:Int}{nm:ByteArray}{e r:D}{aY th el:List D}{e0 e1 e2 e3 bq r1:Value}{cR A2 cu:NH}{n1 n2 n3 c1 c2 c3:Nat}(he:e.rep w P [e0,e1,e2,e3])(ba:r.rep w P [bq,r1])(ac:Sl w P cR n1 aY)(ck:n1<=c1)(az:Sl w P A2 n2 th)(dk:n2<=c2)(aV:Sl w P cu n3 el)(a:n3<=c3):
  (gW k nm e r aY th el).rep w P [k,nm,e0,e1,e2,e3,bq,r1,.slice cR n1 c1,.slice A2 n2 c2,.slice cu n3 c3]:=by
 unfold gW;rw[bK];exact bj.2 ⟨_,rfl,cx.2 ⟨_,rfl,hb.2 ⟨[e0,e1,e2,e3],_,rfl,he,hb.2 ⟨[bq,r1],_,rfl,ba,aN.2 ⟨cR,n1,c1,_,rfl,ck,ac,aN.2 ⟨A2,n2,c2,_,rfl,dk,az,aN.2 ⟨cu,n3,c3,[],rfl,a,aV,aR.2 rfl⟩⟩⟩⟩⟩⟩⟩
theorem lS.names{bp bC:Nat}{a1:NI}{bL:NH}{bF:Nat}{l:List D}{e1 e2:TypeId}{cB:Nat}(h:lS B e1 1 e2 cB w be bp bC (a1.map D.s) bL on bF l)(hM:∀b,M b->b<B):Sl w (off M w) be bp (a1.map D.s):=
 h.one.sl (λb O hp=>⟨O,λhm=>by have:=hM b hm;have:=hp.1;omega⟩) (λb O hp=>⟨O,λhm=>by have:=hM b hm;omega⟩)
def SK(k:Int)(d bp:Nat):Prop:=∀(p:kL) (ck B:Nat) (eE bi:Value) (ps:List (ByteArray×Bool)) (V T:NI) (ls:List aB) (N:Int) (S:World) (L:Nat) (av:World) (a9:ByteArray) (QA:NH) (cq qc:Nat) (bQ:Value) (a1:NI) (be:NH) (bC:Nat) (bL:NH) (on bF:Nat) (b5:Nat) (fk:p.wb<ck) (bn:ck<B) (aT:B<=S.heap.size) (bv:cq<=2) (wr:World) (bl:p.s<p.wb) (bX:p.s<S.heap.size) (cD:p.wb<S.heap.size) (b4:a1.length=bp) (mL:S.heap.size<=wr.heap.size) (aR:NJ (gN S p b5/\an S ck 118 #[.string a9,.slice QA cq qc,bQ]/\Sl S (off p.MW S) QA cq (ps.map cC)/\lS B 9 1 175 11 S be bp bC (a1.map D.s) bL on bF (ls.map bk)/\Sl S (off p.MW S) be bp (a1.map D.s)/\∀b,p.MW b->b<B)) (bY:NJ (pk p S wr L/\an wr ck 118 #[.string a9,.slice QA cq qc,bQ]/\an wr S.heap.size 175 #[.int .i64 5,.string ⟨#[]⟩,.int .i64 0,.int .i64 0,.string ⟨#[]⟩,.slice none 0 0,.string ⟨#[]⟩,.slice none 0 0,.slice none 0 0,.slice none 0 0,.slice none 0 0])) (cd:a1.length+L+1<=60) (c2:on<=10000) (bc:d<=2) (cc:NJ (a1 ⊆ V++decls ls/\mM (T++decls ls) (L+1)/\∀Y,Y<=L->JZ p Y)) (aJ:Nat) (bg:NJ (gN av p aJ/\Sl av (off p.MW av) QA cq (ps.map cC)/\Fr p.MW av S)) (bq:av.heap.size<=ck)
  (Q:Exit->Act->World->Prop) (hQ0:∀c a d v w,Q (.panic c) (a.put d v) w->Q (.panic c) a w) (hN:∀a w,l8 p ck B eE bi d ps V T ls N S L av a9 QA cq qc bQ a w->Q .normal a w) (K:Act->World->Prop) (hK:∀a w,Code.wp prog JO Q a w->K a w)
  {gL o u8 gO eY aQ u16 bx bI eZ e3 e4 e5 e6 e7 e8 e9 fa fb fd fe ff u32 fh fi fj fl fm fo fp fr fs ft fu fv fw fx fy fz fA fB fD fE fF fG fH fI fJ fK fL fM fN fO fP u64 fR fS fT fU fV fW fX fY fZ f3 f4 f5 f6 f7 f8 f9 ga gb gd ge gf gg gh gi gj gk gl gm go gp gq gr gs gt gu H I am aK aM aS aX aY a4 bb bs bt bD bE bT bU b1 b9 ca cb ce cf cg ch cn cp ct cx cy cz cE cF cI cJ cK cM cN cR cS cT cV cW cX cY cZ c5 c6 c7 c8 c9 da db dc dd de df dg dh di dj dk dl dm dn dp dq dr ds dt du dv dw dx dy dA dC dD dE dF dG dH dI dJ dK dL dM dN dO dQ dR dT dU dV dW dZ d0 d1 d2 d3 d4 d5 d6 d7 d8 d9 ea eb ec ed ee ef eh ei ej ek el em en eo eq er es et eu ev ex ey ez eA eB eC eD eF eG eH eI eK eL eM eN eO eP eQ eR eS eT eU eV eW:Value},
  Code.wp prog JL (Exit.then K Q) ⟨#[.pointer (some ⟨p.wb,0,none⟩),eE,.slice be bp bC,.int .i64 (d:Int),bi,gL,.pointer (some ⟨ck,0,none⟩),o,u8,gO,eY,.slice bL on bF,.int .i64 N,.pointer (some ⟨S.heap.size,0,none⟩),(.int .i64 k),aQ,u16,bx,bI,eZ,e3,e4,e5,e6,e7,e8,e9,fa,fb,fd,fe,ff,u32,fh,fi,fj,fl,fm,fo,fp,fr,fs,ft,fu,fv,fw,fx,fy,fz,fA,fB,fD,fE,fF,fG,fH,fI,fJ,fK,fL,fM,fN,fO,fP,u64,fR,fS,fT,fU,fV,fW,fX,fY,fZ,f3,f4,f5,f6,f7,f8,f9,ga,gb,gd,ge,gf,gg,gh,gi,gj,gk,gl,gm,go,gp,gq,gr,gs,gt,gu,H,I,am,aK,aM,aS,aX,aY,a4,bb,bs,bt,bD,bE,bT,bU,b1,b9,ca,cb,ce,cf,cg,ch,cn,cp,ct,cx,cy,cz,cE,cF,cI,cJ,cK,cM,cN,cR,cS,cT,cV,cW,cX,cY,cZ,c5,c6,c7,c8,c9,da,db,dc,dd,de,df,dg,dh,di,dj,dk,dl,dm,dn,dp,dq,dr,ds,dt,du,dv,dw,dx,dy,dA,dC,dD,dE,dF,dG,dH,dI,dJ,dK,dL,dM,dN,dO,dQ,dR,dT,dU,dV,dW,dZ,d0,d1,d2,d3,d4,d5,d6,d7,d8,d9,ea,eb,ec,ed,ee,ef,eh,ei,ej,ek,el,em,en,eo,eq,er,es,et,eu,ev,ex,ey,ez,eA,eB,eC,eD,eF,eG,eH,eI,eK,eL,eM,eN,eO,eP,eQ,eR,eS,eT,eU,eV,eW],[]⟩ wr
namespace C9
theorem pY(h:p:=by
 exact ho.simple (st:=.gM x (.eV R)) ⟨s,wb,sA,bU,bx,sl,GA,gn,gc,MA,mn,mc,FA,fn,fc,M,F,ar⟩ ck B eE bi d ps V T ls N L av a9 QA cq qc bQ aR.1 fk bn aR.2.2.2.1 cc.1 cd c2 aT aP.1 aU (eI (aY.2 ⟨cW,bh,cY,rfl,a3.2.2.2.1,aP.2.2.2.1⟩) k5 (Sl.bY _) (MU _) aP.2.2.2.2 bH.2.2.2.1 (Sl.bY _) (MU _)) ⟨i,j.1,dR cc.1 2 x a3.2.2.1,(dn _ i i a1 _ _ _ cc.1 (λ_ _ h=>h) (MU _) bH.2.2.1.wf)⟩ (λn hn=>by obtain⟨k,ac,az,aV⟩:=bH.2.2.1.all n hn;exact⟨k,ac,ad,aV⟩) (by simp only[aB.num];omega) dm bg.2.2 aR.2.1
 ):p:=h
theorem Bi(h:p:=by
 go_wp2_with(fail);have ay:=bH.2.2.1.num;have aU:=aP.2.1;exact pX
 ):p:=h
theorem Be(h:p:=by
 have bE:an X S 175 #[(8:Int),NF,.int .i64 x.a5,.int .i64 x.numOf,.string x.bw,.slice cW bh cY,NF,(),(),.slice t ab bR,()]:=hX▸(((((bH.2.1.aK 0 _).aK 2 _).aK 3 _).aK 4 _).aK 5 _).aK 9 _;exact Bh
 ):p:=h
theorem Cl(h:p:=by
 go_upto_region 34 with(fail);exact CE
 ):p:=h
theorem mb(h:p:=by
 exact Ck
 ):p:=h
end C9
open C9 in
theorem K0(d bp:Nat)(bI:0<d):SK 12 d bp:=by
 exact ma
end Go.Proofs.YtnigabjngpnbiabGreat
