/- Part 34 of the proof (WrDCallF WrDCallT WrDIte WrDDef11 WrDWhl WrDDef12 WrDRet WrDw WrE WrF), without conditions of its own. -/
import Derived.Test.YtjhgbdckgkppnaaGreatQ33
namespace Go.Proofs.YtjhgbdckgkppnaaGreat
open Go.RowKit Go.Proofs.Tryz
set_option maxRecDepth 1000000
set_option maxHeartbeats 25600000
set_option linter.unusedVariables false
variable{p:Prop}
namespace yG
theorem ku(h:p:=by
 exact eL.simple (st:=.call false g.name aO) ⟨s,wb,bN,bG,bq,sl,GA,gn,gc,MA,mn,mc,_,fn,fc,M,F,ar⟩ b1 B d8 cp d ps V T ls N L W bc QA ch qc bP aF.1 cl cd aF.2.2.2.1 cg.1 dS c2 aT (U.fresh aF.1 aw fun b O=>ad) bk (de im i7 ((cx.ao fun b O=>aw.block b O.2 (aB O.1)).mono fun b O=>⟨by have:=O.1;omega,by have:=O.2;omega⟩) aX (Sl.bu _) (Gb _) (Sl.bu _) (Gb _)) ⟨g.params,GD.2 ⟨g,bw.o,rfl⟩,kh cg.1 _ _ (aJ _)⟩ (fun n hn=>by simp[ay.all] at hn) (by simp only[ay.num];omega) (Gb _) bd.2.2 aF.2.1
 ):p:=h
theorem di(h:p:=by
 generalize bH:World.setCell _ _ _=Y;have aw:Fr (fun b=>b=S.heap.size) aQ Y:=bH▸((Fr.refl (fun b=>b=S.heap.size) aQ).setCell (.inl rfl) _).setCell (.inl rfl) _;have bk:ag Y S.heap.size 175 #[.int .i64 3,.string g.name,.int .i64 0,.int .i64 0,.string ⟨#[]⟩,.slice none 0 0,.string ⟨#[]⟩,.slice none 0 0,.slice KA k kc,.slice none 0 0,.slice none 0 0]:=bH▸(aZ.2.1.aH 1 _).aH 8 _;exact x4
 ):p:=h
theorem h6(h:p:=by
 refine pf ?_;exact dN
 ):p:=h
theorem wR(h:p:=by
 clear l;exact h5
 ):p:=h
theorem w5(h:p:=by
 exact xP
 ):p:=h
theorem gx(h:p:=by
 have br:=aF.1.nf;have bt:=aF.1.ir;simp only at br bt;have gJ:¬wb=s:=ad;obtain⟨bY,cI,I,_⟩:=aF.1.fs.some_ br.1;simp only at I;subst I;go_upto_region 27 with(fail);generalize ah:World.setCell _ _ _=X;have aw:Fr (fun b=>b=S.heap.size) wr X:=ah▸(Fr.refl (fun b=>b=S.heap.size) wr).setCell (.inl rfl) _;have bz:ag X S.heap.size 175 #[.int .i64 3,.string ⟨#[]⟩,.int .i64 0,.int .i64 0,.string ⟨#[]⟩,.slice none 0 0,.string ⟨#[]⟩,.slice none 0 0,.slice none 0 0,.slice none 0 0,.slice none 0 0]:=ah▸(bs.2.2.aH 0 _);exact w4
 ):p:=h
end yG
open yG in
theorem CB(d ba:Nat):SK 9 d ba:=by
 exact gw
namespace yH
theorem ku(h:p:=by
 exact eL.simple (st:=.call true g.name aO) ⟨s,wb,bN,bG,bq,sl,GA,gn,gc,MA,mn,mc,_,fn,fc,M,F,ar⟩ b1 B d8 cp d ps V T ls N L W bc QA ch qc bP aF.1 cl cd aF.2.2.2.1 cg.1 dS c2 aT (U.fresh aF.1 aw fun b O=>ad) bk (de im i7 ((cx.ao fun b O=>aw.block b O.2 (aB O.1)).mono fun b O=>⟨by have:=O.1;omega,by have:=O.2;omega⟩) aX (Sl.bu _) (Gb _) (Sl.bu _) (Gb _)) ⟨g.params,GD.2 ⟨g,bw.o,rfl⟩,kh cg.1 _ _ (aJ _)⟩ (fun n hn=>by simp[ay.all] at hn) (by simp only[ay.num];omega) (Gb _) bd.2.2 aF.2.1
 ):p:=h
theorem di(h:p:=by
 generalize bH:World.setCell _ _ _=Y;have aw:Fr (fun b=>b=S.heap.size) aQ Y:=bH▸((Fr.refl (fun b=>b=S.heap.size) aQ).setCell (.inl rfl) _).setCell (.inl rfl) _;have bk:ag Y S.heap.size 175 #[.int .i64 4,.string g.name,.int .i64 0,.int .i64 0,.string ⟨#[]⟩,.slice none 0 0,.string ⟨#[]⟩,.slice none 0 0,.slice KA k kc,.slice none 0 0,.slice none 0 0]:=bH▸(aZ.2.1.aH 1 _).aH 8 _;exact x4
 ):p:=h
theorem h6(h:p:=by
 refine pf ?_;exact dN
 ):p:=h
theorem wR(h:p:=by
 clear l;exact h5
 ):p:=h
theorem w5(h:p:=by
 exact xP
 ):p:=h
theorem gx(h:p:=by
 have br:=aF.1.nf;have bt:=aF.1.ir;simp only at br bt;have gJ:¬wb=s:=ad;obtain⟨bY,cI,I,_⟩:=aF.1.fs.some_ br.1;simp only at I;subst I;go_upto_region 27 with(fail);generalize ah:World.setCell _ _ _=X;have aw:Fr (fun b=>b=S.heap.size) wr X:=ah▸((Fr.refl (fun b=>b=S.heap.size) wr).setCell (.inl rfl) _).setCell (.inl rfl) _;have bz:ag X S.heap.size 175 #[.int .i64 4,.string ⟨#[]⟩,.int .i64 0,.int .i64 0,.string ⟨#[]⟩,.slice none 0 0,.string ⟨#[]⟩,.slice none 0 0,.slice none 0 0,.slice none 0 0,.slice none 0 0]:=ah▸(bs.2.2.aH 0 _).aH 0 _;exact w4
 ):p:=h
end yH
open yH in
theorem CC(d ba:Nat):SK 10 d ba:=by
 exact gw
namespace yI
theorem ku(h:p:=by
 exact eL.simple (st:=.ite x (.ef v) .nil) ⟨s,wb,bN,bG,bq,sl,GA,gn,gc,MA,mn,mc,FA,fn,fc,M,F,ar⟩ b1 B d8 cp d ps V T ls N L W bc QA ch qc bP aF.1 cl cd aF.2.2.2.1 cg.1 dS c2 aT bH.1 bk (de (aV.2 ⟨b4,b2,cu,rfl,aZ.2.2.2.1,bH.2.2.2.1⟩) i7 (Sl.bu _) (Gb _) bH.2.2.2.2 a8.2.2.2.1 (Sl.bu _) (Gb _)) ⟨i,j.1,dv cg.1 2 x aZ.2.2.1,(cP _ i i be _ _ _ cg.1 (fun _ _ h=>h) (Gb _) a8.2.2.1.wf),lH⟩ (fun n hn=>by simp only[ay.all,aj.all,GF] at hn;obtain⟨k,ac,J,aS⟩:=a8.2.2.1.all n hn;exact⟨k,ac,ad,aS⟩) (by simp only[ay.num,aj.num];omega) dq bd.2.2 aF.2.1
 ):p:=h
theorem wX(h:p:=by
 obtain⟨a0,al,af⟩:=aU.1.blk.two;go_wp2_with (fail);refine(aN X s bN bG bq sl 2 aU.1.src ad ad).mono ?_;rintro e bJ ⟨cm,rfl,aM,bQ,h,he⟩;have t:=he.fr;have dC:s<X.heap.size:=aU.1.src.lt;have aR:=aU.1.next a2 h t;have bL:=aU.2.1.on t ad;have bH:=cA aR bL (aU.2.2.1.on t Z) (aU.2.2.2.1.Ay t fun b O=>ad) (aU.2.2.2.2.Ay t fun b O=>ad);have bF:S.heap.size<bJ.heap.size:=bL.lt;have az:=ai t.size (fun b (ac:b<X.heap.size) (J:¬b=s)=>t.block b ac J);clear a0 al af h he t aR aM bQ bL;have aq:=a8.2.2.1.num;by_cases ap:cm=1
 case neg=>
  have q:(cm == 1)=false:=by simpa using ap
  clear ap;go_wp2_with (fail);have bk:=bH.2.1;exact nB
 case pos=>
  have q:(cm == 1)=true:=by simpa using ap
  clear ap;obtain⟨a7,am,aE⟩:=bH.2.2.1.two;go_wp2_with (fail)
  first
   | rw[j.2,show IntKind.i64.wrap ((i:Nat):Int)=((i:Nat):Int) from IntWalk.i64_in _ ad]
   | rw[j.2]
  refine(cg.2.2 aX ad i 3 be (T++decls ls) o ba u bc ps QA ch qc bP bJ ad ad (bH.1.wr aF.1) (Sl.cZ aF.2.2.2.2.1 bH.1.fr) ad (fun k ap=>cg.2.1 k ad) (Sl.cZ aF.2.2.1 bH.1.fr) bu).mono ?_;rintro e cy ⟨P,bZ,aI,bw,bD,rfl,c4,ce,bK,bU,aa⟩;have H:¬(S.heap.size=s∨S.heap.size=wb):=ad;have U:=bH.2.1.on aa H;have bv:bZ≤aX:=c4.le;have bT:=dz (bH.1.Cf bU aa) U c4 ce bK aa;clear c4 ce bK bU aa a7 am aE;obtain⟨a6,aL,aP⟩:=U.two;clear U;go_wp2_with (fail);generalize cb:World.setCell _ _ _=Y;have aw:Fr (fun b=>b=S.heap.size) cy Y:=cb▸(Fr.refl (fun b=>b=S.heap.size) cy).setCell (.inl rfl) _;have bk:ag Y S.heap.size 175 #[.int .i64 7,.string ⟨#[]⟩,.int .i64 x.aU,.int .i64 x.numOf,.string x.aZ,.slice b4 b2 cu,.string ⟨#[]⟩,.slice none 0 0,.slice none 0 0,.slice m ak cx,.slice aI bw bD]:=cb▸bT.2.1.aH 10 _;clear cb a6 aL aP;have z:=bT.2.2.2.2.2;have bx:=bT.2.2.1.num;have a5:∀b,S.heap.size≤b→¬(b=s∨b=wb):=fun b O h=>ad;have bt:Sl X (fun b=>S.heap.size<b∧b<X.heap.size) b4 b2 (x.args.map a4):=av.1;have bm:Sl X (fun b=>S.heap.size<b∧b<X.heap.size) m ak (cL (.ef v)):=av.2;have aJ:∀b,S.heap.size<b→b<X.heap.size→Y.heap[b]?=X.heap[b]?:=fun b ac J=>(aw.block b (kk az.1 z.size) ad).trans ((z.block b (aB az.1) (a5 b ad)).trans (az.2 b J ad));have cR:X.heap.size≤Y.heap.size:=by have:=az.1;have:=z.size;have:=aw.size;omega
  have bC:Sl Y (fresh S Y) b4 b2 (x.args.map a4):=(bt.ao fun b O=>aJ b O.1 O.2).mono fun b O=>⟨by have:=O.1;omega,by have:=O.2;omega⟩
  have bA:Sl Y (fresh S Y) m ak (cL (.ef v)):=(bm.ao fun b O=>aJ b O.1 O.2).mono fun b O=>⟨by have:=O.1;omega,by have:=O.2;omega⟩
  have bf:Sl Y (fresh S Y) aI bw (cL (.ef P)):=by
   rw[k3];exact(bT.2.2.2.2.1.ao fun b O=>aw.block b O.2 (aB O.1)).mono fun b O=>⟨by have:=O.1;omega,by have:=O.2;have:=aw.size;omega⟩
  try refine cj _ _ ?_
  unfold js;refine⟨o,ba,u,au,on,bj,?_⟩
  iterate 240 apply Exists.intro
  refine⟨?_,rfl⟩;exact eL.simple (st:=.ite x (.ef v) (.ef P)) ⟨s,wb,bN,bG,bq,sl,GA,gn,gc,MA,mn,mc,FA,fn,fc,M,F,ar⟩ b1 B d8 cp d ps V T ls N L W bc QA ch qc bP aF.1 cl cd aF.2.2.2.1 cg.1 dS c2 aT (bT.1.fresh aF.1 aw fun b O=>ad) bk (de (aV.2 ⟨b4,b2,cu,rfl,aZ.2.2.2.1,bC⟩) i7 (Sl.bu _) (Gb _) bA a8.2.2.2.1 bf bT.2.2.2.1) ⟨i,j.1,dv cg.1 2 x aZ.2.2.1,(cP _ i i be _ _ _ cg.1 (fun _ _ h=>h) (Gb _) a8.2.2.1.wf),(cP _ i i be _ _ _ cg.1 (fun _ _ h=>h) (Gb _) bT.2.2.1.wf)⟩ (fun n hn=>by simp only[ay.all] at hn;exact(Gk.1 hn).elim (fun hn=>by obtain⟨k,ac,J,aS⟩:=a8.2.2.1.all n hn;exact⟨k,ad,ad,aS⟩) (fun hn=>by obtain⟨k,ac,J,aS⟩:=bT.2.2.1.all n hn;exact⟨k,ac,ad,aS⟩)) (by simp only[ay.num];omega) ad bd.2.2 aF.2.1
 ):p:=h
theorem w9(h:p:=by
 have bz:ag X S.heap.size 175 #[.int .i64 7,.string ⟨#[]⟩,.int .i64 x.aU,.int .i64 x.numOf,.string x.aZ,.slice b4 b2 cu,.string ⟨#[]⟩,.slice none 0 0,.slice none 0 0,.slice m ak cx,.slice none 0 0]:=ah▸(((((a8.2.1.aH 0 _).aH 2 _).aH 3 _).aH 4 _).aH 5 _).aH 9 _;exact wW
 ):p:=h
theorem wT(h:p:=by
 exact w8
 ):p:=h
theorem xz(h:p:=by
 go_upto_region 30 with(fail);exact wS
 ):p:=h
theorem gx(h:p:=by
 exact xy
 ):p:=h
end yI
open yI in
theorem Ff(d ba:Nat)(b6:0<d):SK 11 d ba:=by
 exact gw
namespace yJ
theorem gx(h:p:=by
 subst b6;exact y2
 ):p:=h
end yJ
open yJ in
theorem CD(d ba:Nat)(b6:d=0):SK 11 d ba:=by
 exact gw
namespace yK
theorem ku(h:p:=by
 exact eL.simple (st:=.fj x (.ef v)) ⟨s,wb,bN,bG,bq,sl,GA,gn,gc,MA,mn,mc,FA,fn,fc,M,F,ar⟩ b1 B d8 cp d ps V T ls N L W bc QA ch qc bP aF.1 cl cd aF.2.2.2.1 cg.1 dS c2 aT aU.1 bk (de (aV.2 ⟨b4,b2,cu,rfl,aZ.2.2.2.1,aU.2.2.2.1⟩) i7 (Sl.bu _) (Gb _) aU.2.2.2.2 a8.2.2.2.1 (Sl.bu _) (Gb _)) ⟨i,j.1,dv cg.1 2 x aZ.2.2.1,(cP _ i i be _ _ _ cg.1 (fun _ _ h=>h) (Gb _) a8.2.2.1.wf)⟩ (fun n hn=>by obtain⟨k,ac,J,aS⟩:=a8.2.2.1.all n hn;exact⟨k,ac,ad,aS⟩) (by simp only[ay.num];omega) dq bd.2.2 aF.2.1
 ):p:=h
theorem wX(h:p:=by
 go_wp2_with (fail);have aq:=a8.2.2.1.num;have bk:=aU.2.1;exact nB
 ):p:=h
theorem w9(h:p:=by
 have bz:ag X S.heap.size 175 #[.int .i64 8,.string ⟨#[]⟩,.int .i64 x.aU,.int .i64 x.numOf,.string x.aZ,.slice b4 b2 cu,.string ⟨#[]⟩,.slice none 0 0,.slice none 0 0,.slice m ak cx,.slice none 0 0]:=ah▸(((((a8.2.1.aH 0 _).aH 2 _).aH 3 _).aH 4 _).aH 5 _).aH 9 _;exact wW
 ):p:=h
theorem wT(h:p:=by
 exact w8
 ):p:=h
theorem xz(h:p:=by
 go_upto_region 34 with(fail);exact wS
 ):p:=h
theorem gx(h:p:=by
 exact xy
 ):p:=h
end yK
open yK in
theorem Fh(d ba:Nat)(b6:0<d):SK 12 d ba:=by
 exact gw
namespace yL
theorem gx(h:p:=by
 subst b6;exact y2
 ):p:=h
end yL
open yL in
theorem CE(d ba:Nat)(b6:d=0):SK 12 d ba:=by
 exact gw
namespace yM
theorem ku(h:p:=by
 exact eL.simple (st:=.ret) ⟨s,wb,bN,bG,bq,sl,GA,gn,gc,MA,mn,mc,FA,fn,fc,M,F,ar⟩ b1 B d8 cp d ps V T ls N L W bc QA ch qc bP aF.1 cl cd aF.2.2.2.1 cg.1 dS c2 aT (c6.1.fresh aF.1 aw fun b O=>ad) bk (de im i7 (Sl.bu _) (Gb _) (Sl.bu _) (Gb _) (Sl.bu _) (Gb _)) trivial (fun n hn=>by simp[ay.all] at hn) (by simp only[ay.num];omega) (Gb _) bd.2.2 aF.2.1
 ):p:=h
theorem gx(h:p:=by
 go_wp2_with (fail);refine(aN wr s bN bG bq sl 3 bs.1.src ad ad).mono ?_;rintro e aH ⟨cm,rfl,aM,bQ,h,he⟩;have b6:S.heap.size<wr.heap.size:=bs.2.2.lt;have t:=he.fr;have c6:=aK (bs.1.next a2 h t) (bs.2.1.on t ad) (bs.2.2.on t ad);clear a0 al af a7 am aE a6 aL aP h he t aM bQ;by_cases ap:cm=1
 case pos=>
  have q:(cm == 1)=true:=by simpa using ap
  clear ap;obtain⟨a6,aL,aP⟩:=c6.2.2.two;go_wp2_with (fail);generalize ah:World.setCell _ _ _=X;have aw:Fr (fun b=>b=S.heap.size) aH X:=ah▸(Fr.refl (fun b=>b=S.heap.size) aH).setCell (.inl rfl) _;have bk:ag X S.heap.size 175 #[.int .i64 9,.string ⟨#[]⟩,.int .i64 0,.int .i64 0,.string ⟨#[]⟩,.slice none 0 0,.string ⟨#[]⟩,.slice none 0 0,.slice none 0 0,.slice none 0 0,.slice none 0 0]:=ah▸c6.2.2.aH 0 _;exact nB
 case neg=>
  have q:(cm == 1)=false:=by simpa using ap
  clear ap;obtain⟨a0,al,af⟩:=c6.1.blk.two;obtain⟨a7,am,aE⟩:=c6.2.1.two;obtain⟨a6,aL,aP⟩:=c6.2.2.two;go_wp2_with (fail);refine(lJ ⟨s,wb,bN,bG,bq,sl,GA,gn,gc,MA,mn,mc,FA,fn,fc,M,F,ar⟩ L be o ba u bc ps QA ch qc bP aH (c6.1.wr aF.1) ((Sl.cZ aF.2.2.2.2.1 c6.1.fr).mono fun b O=>⟨O.1,fun h=>O.2 (.inl h)⟩) ad ((Sl.cZ aF.2.2.1 c6.1.fr).mono fun b O=>⟨O.1,fun h=>O.2 (.inl h)⟩) bu).mono ?_;rintro e aQ ⟨r,IA,i,ic,rfl,aJ,Z,aa,aC,t⟩;simp only at aJ aC t;have bl:S.heap.size<aH.heap.size:=c6.2.2.lt;have l:=c6.2.2.on t ad;have aO:=c6.2.1.on t ad;have aZ:=gK (c6.1.next a2 aC t) l aO (aJ (F.map fun f=>(f.name,f.params))) Z aa t.size;clear a0 al af a7 am aE a6 aL aP aJ Z aa aC t aO;obtain⟨a6,aL,aP⟩:=l.two;clear l;go_upto_region 10 with(fail);generalize ah:World.setCell _ _ _=X;have aw:Fr (fun b=>b=S.heap.size) aQ X:=ah▸((Fr.refl (fun b=>b=S.heap.size) aQ).setCell (.inl rfl) _).setCell (.inl rfl) _;have bz:ag X S.heap.size 175 #[.int .i64 5,.string ⟨#[]⟩,.int .i64 0,.int .i64 0,.string ⟨#[]⟩,.slice none 0 0,.string r.name,.slice IA i ic,.slice none 0 0,.slice none 0 0,.slice none 0 0]:=ah▸(aZ.2.1.aH 6 _).aH 7 _;have cv:Sl X (fresh aH X) IA i (r.idx.toList.map a4):=(aZ.2.2.2.2.2.1.ao fun b O=>aw.block b O.2 (aB O.1)).mono fun b O=>⟨O.1,by have:=O.2;have:=aw.size;omega⟩
  have aU:=cA (aZ.1.fresh aF.1 aw fun b O=>ad) bz (aZ.2.2.1.on aw ad) cv (by have:=aw.size;have:=aZ.2.2.2.2.2.2;omega:aH.heap.size≤X.heap.size);clear ah a6 aL aP aw bz cv;obtain⟨a6,aL,aP⟩:=aU.2.1.two;go_upto_region 11 with(fail);generalize hU:World.alloc _ _=U;have ab:Ext X U:=hU▸GN.alloc _;have bx:ag U X.heap.size 175 #[.int .i64 6,.string ⟨#[]⟩,.int .i64 0,.int .i64 0,.string ⟨#[]⟩,.slice none 0 0,.string r.name,.slice IA i ic,.slice none 0 0,.slice none 0 0,.slice none 0 0]:=hU▸GO;have a1:=aU.1.al a2 ab;have b2:Gr (fun b=>(B≤b∧(Value.slice o ba u).ownBlock≠some b)∧b≠S.heap.size) B 175 11 U au on bj (ls.map aW):=(aF.2.2.2.1.two.mono fun b ac J=>⟨J,ad⟩).cZ a1.fr fun b O hl=>⟨fun h=>by have:=aF.2.2.2.2.2 b O;have:=h.1.1;omega,aF.2.2.2.2.2 b O⟩
  have a8:Gr (fun _=>False) B 9 1 U o ba u (be.map D.s):=(Gr.strs aF.2.2.2.1.one).cZ a1.fr fun b O hl=>⟨fun h=>h,aF.2.2.2.2.2 b O⟩
  have j:∀b,(Value.slice o ba u).ownBlock=some b→b<S.heap.size:=fun b O=>(aF.2.2.2.1.one.lt O).2;have m:∀b,(Value.slice au on bj).ownBlock=some b→B≤b∧b<S.heap.size:=fun b O=>aF.2.2.2.1.two.lt O;have ax:∀b,(Value.slice o ba u).ownBlock=some b→(Value.slice au on bj).ownBlock≠some b:=aF.2.2.2.1.ne;have cO:X.heap.size<U.heap.size:=bx.lt;have cM:aH.heap.size≤X.heap.size:=aU.2.2.2.2;have bU:Sl U (fun b=>aH.heap.size≤b∧b<X.heap.size) IA i (r.idx.toList.map a4):=aU.2.2.2.1.ao fun b O=>ab.block b O.2 fun h=>h;have hD:(aW (.lock false r)).rep U (j2 (fun b=>(B≤b∧(Value.slice o ba u).ownBlock≠some b)∧b≠S.heap.size) U (.slice au on bj)) [.int .i64 5,.string ⟨#[]⟩,.int .i64 0,.int .i64 0,.string ⟨#[]⟩,.slice none 0 0,.string r.name,.slice IA i ic,.slice none 0 0,.slice none 0 0,.slice none 0 0]:=by
   exact xS
  have cn:=nw a1 (aU.2.1.al ab) (aU.2.2.1.al ab) bx b2 a8 bU hD;have aV:=aK j m ax;have cf:B≤U.heap.size:=ad;have bY:B≤X.heap.size:=ad;clear hU ab bx a1 b2 a8 bU hD j m ax a6 aL aP;obtain⟨a6,aL,aP⟩:=cn.2.1.two;obtain⟨a7,am,aE⟩:=cn.2.2.1.two;go_upto_region 12 with(at_builtin;refine bS jQ rfl (.tmp 59) (.tmp 61) rfl cn.2.2.2.2.1 cn.2.2.2.2.2.2.2 rfl rfl rfl ad ad cf ?_;intro bO av bJ an aq b3 ce;have az:=aK an aq b3;clear an aq b3 ce a6 aL aP);obtain⟨bo,P,bV⟩:=az.o;obtain⟨j,m,ax⟩:=aV.o;have cF:W.heap.size<B:=ad;have aY:¬(Value.slice au on bj).ownBlock=some X.heap.size:=fun h=>by have:=(m _ h).2;omega
  have bf:¬(Value.slice au on bj).ownBlock=some S.heap.size:=fun h=>by have:=(m _ h).2;omega
  have aI:¬(Value.slice au on bj).ownBlock=some b1:=fun h=>by have:=(m _ h).1;omega
  have aR:mf ⟨s,wb,bN,bG,bq,sl,GA,gn,gc,MA,mn,mc,FA,fn,fc,M,F,ar⟩ W bJ L:=(mf.mk cn.1.src cn.1.blk (bd.2.2.trans cn.1.fr) cn.1.le).fresh bd.1 P fun b O=>by have:=(m b O).1;omega
  have bh:=cn.2.2.2.2.2.1.cz P.size fun b ao hp=>P.block b ao (hp.elim (fun h=>h.elim) fun hp=>ax b hp);have b4:Sl bJ (fun b=>aH.heap.size≤b∧b<X.heap.size) IA i (r.idx.toList.map a4):=cn.2.2.2.2.2.2.1.ao fun b O=>P.block b (aB O.2) fun h=>by have:=(m b h).2;have:=O.1;omega
  have bH:=gK aR (cn.2.1.on P bf) (cn.2.2.1.on P aI) (cn.2.2.2.1.on P aY) bo bh b4;have aG:∀b,(Value.slice bO (on+1) av).ownBlock=some b→(B≤b∧b<S.heap.size∧(Value.slice au on bj).ownBlock=some b)∨U.heap.size≤b:=fun b O=>(bV b O).imp (fun h=>⟨(m b h).1,(m b h).2,h⟩) id;have a5:=ai aG P.size;clear bo P bV j m ax aY bf aI aR bh b4 aG cn az a7 am aE;obtain⟨a7,am,aE⟩:=bH.2.2.1.two;have gO:Sl bJ (off (fun b=>b=s∨b=wb) bJ) o ba (be.map D.s):=bH.2.2.2.2.2.1.sl (fun _ _ h=>h.elim) (fun b O aT=>⟨O,fun h=>ad⟩);go_wp2_with (fail);refine(cg.2.2 L ad 0 2 be (T++decls ls) o ba u bc ps QA ch qc bP bJ ad ad (bH.1.wr bd.1) gO ad (fun k ap=>cg.2.1 k ad) (Sl.cZ bd.2.1 bH.1.fr) bu).mono ?_;rintro e cy ⟨v,aX,cI,ak,cx,rfl,R,bn,b7,ci,z⟩
  try simp only at z
  clear a7 am aE gO;have a9:=R.le;have cB:L≤24:=bH.1.le;have cH:ak≤48:=by
   exact ya
  have aG:=a5.1;have cN:=a5.2;have bg:∀b,(b=s∨b=wb)→b<W.heap.size:=fun b O=>by
   exact yb
  have cF:W.heap.size<B:=ad;have cs:=bH.2.2.2.2.1.cZ z fun b O hl=>⟨fun h=>by have:=bg b O;have:=h.1.1;omega,by have:=bg b O;omega⟩
  have br:=bH.2.2.2.2.2.1.cZ z fun b O hl=>⟨fun h=>h,by have:=bg b O;omega⟩
  have ct:Sl cy (fun b=>aH.heap.size≤b∧b<X.heap.size) IA i (r.idx.toList.map a4):=bH.2.2.2.2.2.2.ao fun b O=>z.block b (aB O.2) fun h=>by have:=bg b h;have:=O.1;omega
  have ca:=aV.1;have bp:Sl cy (j2 (fun b=>(B≤b∧(Value.slice o ba u).ownBlock≠some b)∧b≠S.heap.size) cy (.slice bO (on+1) av)) cI ak (v.map aW):=b7.mono fun b O=>⟨⟨⟨by have:=O.1;omega,fun h=>by have:=ca b h;have:=O.1;omega⟩,by have:=O.1;omega⟩,O.2,fun h=>by
   have ac:=O.1;rcases aG b h with J|J
   ·omega
   ·have:=(bH.2.2.2.2.1.lt h).2;omega⟩
  have cw:=ub (bH.1.Cf ci z) (bH.2.1.on z fun h=>by have:=bg _ h;omega) (bH.2.2.1.on z fun h=>by have:=bg _ h;omega) (bH.2.2.2.1.on z fun h=>by have:=bg _ h;omega) cs br ct bp R;have bv:∀d∈v.map aW,d.sz=11:=fun d hd=>by obtain⟨x,_,rfl⟩:=GD.1 hd;exact nV x
  have ck:B≤cy.heap.size:=by have:=z.size;omega
  have cD:U.heap.size≤cy.heap.size:=by have:=z.size;omega
  clear R bn b7 ci z cs br ct bp bH aG ca;go_upto_region 13 with(at_builtin;refine oN jQ rfl (.tmp 63) (.tmp 67) rfl cw.2.2.2.2.1 cw.2.2.2.2.2.2.2.1 bv rfl rfl ad ad ck ?_;intro cE bL cJ an aq b3 ce;have bK:=aK an aq b3;clear an aq b3 ce);obtain⟨bm,aA,bI⟩:=bK.o;have aG:=a5.1;obtain⟨j,m,ax⟩:=aV.o;have cc:∀b,(Value.slice o ba u).ownBlock=some b→(Value.slice bO (on+1) av).ownBlock≠some b:=fun b O h=>by
   exact yc
  have aY:¬(Value.slice bO (on+1) av).ownBlock=some X.heap.size:=fun h=>by rcases aG _ h with J|J<;>omega
  have bf:¬(Value.slice bO (on+1) av).ownBlock=some S.heap.size:=fun h=>by rcases aG _ h with J|J<;>omega
  have aI:¬(Value.slice bO (on+1) av).ownBlock=some b1:=fun h=>by rcases aG _ h with J|J<;>omega
  have bZ:=cw.1.fresh bd.1 aA fun b O=>by rcases aG _ O with J|J<;>omega
  have bt:=cw.2.2.2.2.2.1.cz aA.size fun b ao hp=>aA.block b ao (hp.elim (fun h=>h.elim) fun hp=>cc b hp);have cu:Sl cJ (fun b=>aH.heap.size≤b∧b<X.heap.size) IA i (r.idx.toList.map a4):=cw.2.2.2.2.2.2.1.ao fun b O=>aA.block b (aB O.2) fun h=>by have ac:=O.1;have aS:=O.2;rcases aG _ h with J|J<;>omega
  have c4:=gK bZ (cw.2.1.on aA bf) (cw.2.2.1.on aA aI) (cw.2.2.2.1.on aA aY) bm bt cu;have aD:∀b,(Value.slice cE (on+1+ak) bL).ownBlock=some b→(B≤b∧b<S.heap.size∧(Value.slice au on bj).ownBlock=some b)∨U.heap.size≤b:=fun b O=>by
   rcases bI b O with ac|ac
   ·exact aG b ac
   ·exact .inr ad
  have cC:=ae aD;clear bm aA bI aG j m ax cc aY bf aI bZ bt cu aD bK;obtain⟨a6,aL,aP⟩:=c4.2.1.two;obtain⟨bD,bE,b5⟩:=c4.2.2.2.1.two;go_wp2_with (fail);generalize cb:World.setCell _ _ _=Y;have bF:W.heap.size≤S.heap.size:=bd.2.2.size;obtain⟨bA,bw,bb⟩:=dA (M:=fun b=>b=s∨b=wb) (w:=W) [.int .i64 6,.string ⟨#[]⟩,.int .i64 0,.int .i64 0,.string ⟨#[]⟩,.slice none 0 0,.string r.name,.slice IA i ic,.slice none 0 0,.slice none 0 0,.slice none 0 0] (by rfl) c4.2.1 c4.1.fr bF cb;have j:=aV.1;have aD:=cC.o;have bC:=c4.2.2.2.2.2.1;have da:=c4.2.2.2.2.1;have R:=cw.2.2.2.2.2.2.2.2;have cG:Sl Y (fun b=>aH.heap.size≤b∧b<X.heap.size) IA i (r.idx.toList.map a4):=c4.2.2.2.2.2.2.ao fun b O=>bb.block b (kk O.2 c4.2.2.2.1.lt) (aB O.1);have bT:cJ.heap.size≤Y.heap.size:=bb.size;have cL:X.heap.size<cJ.heap.size:=c4.2.2.2.1.lt
  try refine cj _ _ ?_
  unfold js;refine⟨o,ba,u,cE,on+1+ak,bL,?_⟩
  iterate 240 apply Exists.intro
  refine⟨?_,rfl⟩;refine⟨be,.lock false r::v,.lock true r,aX,_,c4.1.fresh bd.1 bb (fun b O=>ad),c4.2.2.1.on bb ad,⟨?_,?_,fun b O h=>?_⟩,bA,?_,uC aZ.2.2.2.1 cg.1 R.wf,?_,?_,a9,?_,ad,ad⟩
  ·exact Gr.strs (bC.cz bb.size fun b ao hp=>bb.block b ao (hp.elim (fun h=>h.elim) fun hp=>by have:=j b hp;omega))
  ·have ac:=(da.cz bb.size fun b ao hp=>bb.block b ao (by
    rcases hp with hp|hp
    ·exact hp.2
    ·rcases aD b hp with J|J<;>omega)).mono fun b _ hp=>hp.1
   exact x1
  ·rcases aD b h with J|J
   ·exact aV.2.2 b O J.2.2
   ·have:=j b O;omega
  ·exact de im (fR.2 ⟨IA,i,ic,rfl,aZ.2.2.2.2.1,cG.mono fun b O=>⟨⟨by have:=O.1;omega,fun h=>by have:=j b h;have:=O.1;omega⟩,by have:=O.2;omega,fun h=>by have ac:=O.1;have aS:=O.2;rcases aD b h with J|J<;>omega⟩⟩) (Sl.bu _) (Gb _) (Sl.bu _) (Gb _) (Sl.bu _) (Gb _)
  ·intro n hn;exact xW
  ·rw[Gs,iF,qq,m7];have:=R.num;simp only[ay.num];omega
  ·intro y a3;have:=cg.1 a3;exact Dg
 ):p:=h
end yM
open yM in
theorem Fg(d ba:Nat):SK 13 d ba:=by
 exact gw
theorem Fe(cm:Int)(aG:0≤cm)(aa:cm<14)(d ba:Nat):SK cm d ba:=by
 by_cases bo:cm<4
 ·exact CF cm d ba ad
 by_cases j:cm<7
 ·exact CG cm d ba ad ad
 have ap:cm=7∨cm=8∨cm=9∨cm=10∨cm=11∨cm=12∨cm=13:=ad;rcases ap with rfl|rfl|rfl|rfl|rfl|rfl|rfl
 ·exact Ep d ba
 ·by_cases bC:0<ba
  ·exact Eo d ba ad
  ·exact Em d ba ad
 ·exact CB d ba
 ·exact CC d ba
 ·by_cases hd:0<d
  ·exact Ff d ba ad
  ·exact CD d ba ad
 ·by_cases hd:0<d
  ·exact Fh d ba ad
  ·exact CE d ba ad
 ·exact Fg d ba
def Fv(p:jr)(b1 B:Nat)(d8 cp:Value)(d:Nat)(ps:List (ByteArray×Bool))(V T:GS)(W:World)(bM:Nat)(bc:ByteArray)(QA:GR)(ch qc:Nat)(bP:Value)(o:GR)(ba u:Nat)(au:GR)(on bj:Nat)(N:Int)(w:World):Prop:=∃(be:GS) (ls:List ay) (L:Nat),
 N≤7∧mf p W w L∧ag w b1 140 #[.string bc,.slice QA ch qc,bP]∧jO B 9 1 175 11 w o ba u (be.map D.s) au on bj (ls.map aW)∧Made (p.env ps) d V T bM L ls∧be ⊆ V++decls ls∧be.length+L≤60
def oU(p:jr)(b1 B:Nat)(d8 cp:Value)(d:Nat)(ps:List (ByteArray×Bool))(V T:GS)(W:World)(bM:Nat)(bc:ByteArray)(QA:GR)(ch qc:Nat)(bP:Value)(a:Act)(w:World):Prop:=∃(o:GR) (ba u:Nat) (au:GR) (on bj:Nat) (N:Int) (gE E u8 gG eO g u16 s bG eP eQ eR eS eT eU eV eW eX eY eZ e3 e4 u32 e5 e6 e7 e8 e9 fa fb fd fe ff fh fi fj fk fl fm fo fp fq fr fs ft fu fv fw fx fy fz fA fB fC u64 fD fF fG fH fI fJ fK fL fM fN fO fP fQ fR fS fT fU fV fW fX fY fZ f0 f1 f2 f3 f6 f7 f8 f9 ga gb gd ge gf am aE aL aP a3 a4 a6 a7 bg bh bk bp br bs bt bz bC bL bY b0 b6 b7 ca cg ci cn cq ct cv cw cx cz cB cC cD cE cF cG cH cI cJ cK cL cM cN cO cP cQ cR cS cT cU cV cX cY cZ c5 c7 c8 c9 da db dc dd de df dg dh dj dk dl dm dn dp dq ds dt du dv dx dy dz dB dC dD dE dF dG dH dI dJ dK dL dM dO dP dQ dR dT dV dW dX dY dZ d0 d1 d2 d3 d4 d5 d6 d7 d9 ea eb ec ed ee ef eg ei ek el em en eo ep eq er es et eu ev ew ex ey ez eA eB eC eD eE eF eG eH eI eJ eK eM b8 bi:Value),Fv p b1 B d8 cp d ps V T W bM bc QA ch qc bP o ba u au on bj N w∧a=⟨#[.pointer (some ⟨p.wb,0,none⟩),d8,.slice o ba u,.int .i64 (d:Int),cp,gE,.pointer (some ⟨b1,0,none⟩),E,u8,gG,eO,.slice au on bj,.int .i64 N,b8,bi,g,u16,s,bG,eP,eQ,eR,eS,eT,eU,eV,eW,eX,eY,eZ,e3,e4,u32,e5,e6,e7,e8,e9,fa,fb,fd,fe,ff,fh,fi,fj,fk,fl,fm,fo,fp,fq,fr,fs,ft,fu,fv,fw,fx,fy,fz,fA,fB,fC,u64,fD,fF,fG,fH,fI,fJ,fK,fL,fM,fN,fO,fP,fQ,fR,fS,fT,fU,fV,fW,fX,fY,fZ,f0,f1,f2,f3,f6,f7,f8,f9,ga,gb,gd,ge,gf,am,aE,aL,aP,a3,a4,a6,a7,bg,bh,bk,bp,br,bs,bt,bz,bC,bL,bY,b0,b6,b7,ca,cg,ci,cn,cq,ct,cv,cw,cx,cz,cB,cC,cD,cE,cF,cG,cH,cI,cJ,cK,cL,cM,cN,cO,cP,cQ,cR,cS,cT,cU,cV,cX,cY,cZ,c5,c7,c8,c9,da,db,dc,dd,de,df,dg,dh,dj,dk,dl,dm,dn,dp,dq,ds,dt,du,dv,dx,dy,dz,dB,dC,dD,dE,dF,dG,dH,dI,dJ,dK,dL,dM,dO,dP,dQ,dR,dT,dV,dW,dX,dY,dZ,d0,d1,d2,d3,d4,d5,d6,d7,d9,ea,eb,ec,ed,ee,ef,eg,ei,ek,el,em,en,eo,ep,eq,er,es,et,eu,ev,ew,ex,ey,ez,eA,eB,eC,eD,eE,eF,eG,eH,eI,eJ,eK,eM],[]⟩
def BJ(a:Act)(_:World):Nat:=(intOf (a.tmps.getD 12 undef)).toNat
theorem CI(p:jr)(b1 B:Nat)(d8 cp:Value)(d:Nat)(ps:List (ByteArray×Bool))(V T:GS)(W:World)(bM:Nat)(bc:ByteArray)(QA:GR)(ch qc:Nat)(bP:Value)(bW:fE W p bM)(co:Sl W (off p.MW W) QA ch (ps.map cW))(ej:W.heap.size≤b1)(cd:b1<B)(bD:B≤b1+1)(bu:ch≤2)(bB:d≤2)(bX:kV T bM)(dw:∀R,R<bM→Ey p R)(c6:Exit→Act→World→Prop)(hQ0:∀c a d v w,c6 (.panic c) (a.put d v) w→c6 (.panic c) a w)(i:∀I j,oU p b1 B d8 cp d ps V T W bM bc QA ch qc bP I j→c6 (.exit 0) I j)
  (a:Act) (wr:World) (hI:oU p b1 B d8 cp d ps V T W bM bc QA ch qc bP a wr):Code.wp prog tW (Exit.then (fun I j=>oU p b1 B d8 cp d ps V T W bM bc QA ch qc bP I j∧BJ I j<BJ a wr) c6) a wr:=by
 obtain⟨s,wb,bN,bG,bq,sl,GA,gn,gc,MA,mn,mc,FA,fn,fc,M,F,ar⟩:=p;unfold oU at hI;obtain⟨o,ba,u,au,on,bj,N,hI⟩:=hI
 iterate 241 obtain⟨_,hI⟩:=hI
 obtain⟨hI,rfl⟩:=hI;have aF:=ae hI;obtain⟨be,ls,L,aT,hC,cq,bR,a5,hV,dS⟩:=hI;have a2:=bW.ne;have b0:=bW.src.lt;have cz:=bW.blk.lt;simp only at a2 b0 cz;obtain⟨a0,al,af⟩:=hC.blk.two;have ca:be.length=ba:=by have:=bR.one.len;simpa using this
 have Q:ls.length=on:=by have:=bR.two.len;simpa using this
 have Z:=hC.le;have t:=a5.le;have az:=bW.jE;have aD:on≤48:=by
  have ac:=a5.num;have J:=rk ls;have aS:=bW.jE;omega
 have aj:=cA hC cq bR a5 hV;have bd:=bO bW co bX dw;clear hC cq bR a5 hV bW co bX dw;by_cases hT:0<N
 case neg=>
  have q:decide (N > 0)=false:=by simp;omega
  exact wk
 by_cases aR:0<L
 case neg=>
  have q:decide (N > 0)=true:=by simpa using hT
  obtain rfl:L=0:=ad;exact wk
 obtain⟨R,rfl⟩:∃R,L=R+1:=⟨L - 1,ad⟩
 have dq:(0:Int)<((R+1:Nat):Int):=ad;clear aF;conv=>arg 2;whnf
 go_upto_region 7 with(fail);generalize ah:World.setCell _ _ _=S;have bU:Fr (fun b=>b=wb) wr S:=ah▸(Fr.refl (fun b=>b=wb) wr).setCell (.inl rfl) _;have bt:ag S wb 129 #[.pointer (some ⟨s,0,none⟩),.slice GA gn gc,.slice MA mn mc,.slice FA fn fc,.int .i64 R,.bool ar]:=ah▸aj.1.blk.aH 4 _;have aE:mf ⟨s,wb,bN,bG,bq,sl,GA,gn,gc,MA,mn,mc,FA,fn,fc,M,F,ar⟩ W S R:=⟨aj.1.src.ch bU (fun b O h=>by simp only at O;omega),bt,aj.1.fr.trans (bU.mono fun _ h=>.inr h),ad⟩
 have n:=aj.2.1.on bU ad;have b2:=aj.2.2.1.cZ bU (fun b O _=>ad);have bf:=aK aE n b2;have cc:b1<S.heap.size:=n.lt;clear ah bU bt aE n b2 a0 al af;obtain⟨a0,al,af⟩:=bf.1.blk.two;go_upto_region 8 with(fail);generalize bp:World.alloc _ _=aH;have aI:Ext S aH:=bp▸GN.alloc _;have aw:ag aH S.heap.size 175 #[.int .i64 5,.string ⟨#[]⟩,.int .i64 0,.int .i64 0,.string ⟨#[]⟩,.slice none 0 0,.string ⟨#[]⟩,.slice none 0 0,.slice none 0 0,.slice none 0 0,.slice none 0 0]:=bp▸GO;have r:mf ⟨s,wb,bN,bG,bq,sl,GA,gn,gc,MA,mn,mc,FA,fn,fc,M,F,ar⟩ S aH R:=⟨bf.1.src.ch aI (fun _ _ h=>h),bf.1.blk.al aI,aI.mono fun _ h=>h.elim,bf.1.le⟩
 have H1:=ai r aw;clear bp aI aw r a0 al af;obtain⟨a0,al,af⟩:=H1.1.blk.two;go_wp2_with (fail);refine(aN aH s bN bG bq sl 14 H1.1.src ad ad).mono ?_;rintro e aQ ⟨cm,rfl,aG,aa,h,he⟩;have U:=H1.1.next a2 h he.fr;have b6:=H1.2.on he.fr ad;have bk:=ai U b6;clear h he U b6 a0 al af H1;go_upto_region 14 with(fail);refine Fe cm aG aa d ba ⟨s,wb,bN,bG,bq,sl,GA,gn,gc,MA,mn,mc,FA,fn,fc,M,F,ar⟩ b1 B d8 cp ps V T ls N S R W bc QA ch qc bP be o u au on bj R (bf.1.wr bd.1) (by simp only;omega) ad ad bf.2.1 (Sl.cZ bd.2.1 bf.1.fr) bu bf.2.2 aQ bk.1 bk.2 aj.2.2.2.2 ad (aj.2.2.2.1.free ad bd.2.2.1) ad bB (fun aO a9=>bd.2.2.2 aO ad) bM bd.1 bd.2.1 bf.1.fr ej _ ?aU ?cj _ (by assumption)
 case aU=>exact fun c a d v w h=>hQ0 _ _ _ _ _ h
 case cj=>
  intro I ab hp;unfold js at hp;obtain⟨z,aB,Y,ao,Ez,ax,hp⟩:=hp
  iterate 240 obtain⟨_,hp⟩:=hp
  obtain⟨hF,rfl⟩:=hp;obtain⟨ay,m,st,bZ,cs,x,k,l,X,am,aJ,y,K,hle,P,av,aM⟩:=hF;obtain⟨eo,en,es,EA,em,ec,rs,bH,bC,rc,cC,n1,c1,A2,bl,c2,cl,cn,c3,rfl,_⟩:=kd am;obtain⟨a6,aL,aP⟩:=X.two;have aZ:=nw x k l am aJ y K P;have aC:b1<ab.heap.size:=k.lt;have cf:B≤ab.heap.size:=ad;clear x k l X am aJ y K P;clear bk
  try dsimp only[Exit.inBlock,Exit.then]
  go_wp2_with (at_builtin;refine bS jQ rfl (.tmp 244) (.tmp 246) rfl aZ.2.2.1.two aZ.2.2.2.1 rfl rfl rfl ad ad cf ?_;intro cE bL cJ an aq b3 ce;have bK:=aK an aq b3;clear an aq b3 ce);refine⟨?_,by simp[BJ,intOf];omega⟩;obtain⟨x,k,l,am,aJ,y,K,P⟩:=aZ.o;obtain⟨bm,aA,bI⟩:=bK.o;have ap:∀b,(Value.slice ao Ez ax).ownBlock=some b→B≤b:=fun b O=>(l.two.lt O).1;unfold oU;refine⟨z,aB,Y,cE,Ez+1,bL,N - 1,?_⟩
  iterate 241 apply Exists.intro
  refine⟨?_,rfl⟩;refine⟨ay,ls++(m++[st]),bZ,ad,x.fresh bd.1 aA (fun b O=>by have:=ap b O;omega),k.on aA (fun O=>by have:=ap _ O;omega),?_,aj.2.2.2.1.snoc aJ y K ad,P,av⟩;have ak:(ls++(m++[st])).map aW=(ls++m).map aW++[aW st]:=by simp
  rw[ak];exact(l.swap.grow bm aA bI).swap
theorem Et(p:jr)(b1 B:Nat)(d8 cp:Value)(d:Nat)(ps:List (ByteArray×Bool))(V T:GS)(W:World)(bM:Nat)(bc:ByteArray)(QA:GR)(ch qc:Nat)(bP:Value)(bW:fE W p bM)(co:Sl W (off p.MW W) QA ch (ps.map cW))(ej:W.heap.size≤b1)(cd:b1<B)(bD:B≤b1+1)(bu:ch≤2)(bB:d≤2)(bX:kV T bM)(dw:∀R,R<bM→Ey p R)(c6:Exit→Act→World→Prop)(hQ0:∀c a d v w,c6 (.panic c) (a.put d v) w→c6 (.panic c) a w)(i:∀I j,oU p b1 B d8 cp d ps V T W bM bc QA ch qc bP I j→c6 (.exit 0) I j)
  (o:GR) (ba u:Nat) (au:GR) (on bj:Nat) (N:Int) {gE E u8 gG eO g u16 s bG eP eQ eR eS eT eU eV eW eX eY eZ e3 e4 u32 e5 e6 e7 e8 e9 fa fb fd fe ff fh fi fj fk fl fm fo fp fq fr fs ft fu fv fw fx fy fz fA fB fC u64 fD fF fG fH fI fJ fK fL fM fN fO fP fQ fR fS fT fU fV fW fX fY fZ f0 f1 f2 f3 f6 f7 f8 f9 ga gb gd ge gf am aE aL aP a3 a4 a6 a7 bg bh bk bp br bs bt bz bC bL bY b0 b6 b7 ca cg ci cn cq ct cv cw cx cz cB cC cD cE cF cG cH cI cJ cK cL cM cN cO cP cQ cR cS cT cU cV cX cY cZ c5 c7 c8 c9 da db dc dd de df dg dh dj dk dl dm dn dp dq ds dt du dv dx dy dz dB dC dD dE dF dG dH dI dJ dK dL dM dO dP dQ dR dT dV dW dX dY dZ d0 d1 d2 d3 d4 d5 d6 d7 d9 ea eb ec ed ee ef eg ei ek el em en eo ep eq er es et eu ev ew ex ey ez eA eB eC eD eE eF eG eH eI eJ eK eM b8 bi:Value} (wr:World) (hI:Fv p b1 B d8 cp d ps V T W bM bc QA ch qc bP o ba u au on bj N wr):Code.wp prog (Code.loop tW) c6 ⟨#[.pointer (some ⟨p.wb,0,none⟩),d8,.slice o ba u,.int .i64 (d:Int),cp,gE,.pointer (some ⟨b1,0,none⟩),E,u8,gG,eO,.slice au on bj,.int .i64 N,b8,bi,g,u16,s,bG,eP,eQ,eR,eS,eT,eU,eV,eW,eX,eY,eZ,e3,e4,u32,e5,e6,e7,e8,e9,fa,fb,fd,fe,ff,fh,fi,fj,fk,fl,fm,fo,fp,fq,fr,fs,ft,fu,fv,fw,fx,fy,fz,fA,fB,fC,u64,fD,fF,fG,fH,fI,fJ,fK,fL,fM,fN,fO,fP,fQ,fR,fS,fT,fU,fV,fW,fX,fY,fZ,f0,f1,f2,f3,f6,f7,f8,f9,ga,gb,gd,ge,gf,am,aE,aL,aP,a3,a4,a6,a7,bg,bh,bk,bp,br,bs,bt,bz,bC,bL,bY,b0,b6,b7,ca,cg,ci,cn,cq,ct,cv,cw,cx,cz,cB,cC,cD,cE,cF,cG,cH,cI,cJ,cK,cL,cM,cN,cO,cP,cQ,cR,cS,cT,cU,cV,cX,cY,cZ,c5,c7,c8,c9,da,db,dc,dd,de,df,dg,dh,dj,dk,dl,dm,dn,dp,dq,ds,dt,du,dv,dx,dy,dz,dB,dC,dD,dE,dF,dG,dH,dI,dJ,dK,dL,dM,dO,dP,dQ,dR,dT,dV,dW,dX,dY,dZ,d0,d1,d2,d3,d4,d5,d6,d7,d9,ea,eb,ec,ed,ee,ef,eg,ei,ek,el,em,en,eo,ep,eq,er,es,et,eu,ev,ew,ex,ey,ez,eA,eB,eC,eD,eE,eF,eG,eH,eI,eJ,eK,eM],[]⟩ wr:=by
 refine wp_loop (oU p b1 B d8 cp d ps V T W bM bc QA ch qc bP) BJ ?_ (fun a j hI=>CI p b1 B d8 cp d ps V T W bM bc QA ch qc bP bW co ej cd bD bu bB bX dw c6 hQ0 i a j hI);unfold oU
 iterate 248 apply Exists.intro
 exact⟨hI,rfl⟩
theorem l7{w:World}{P:Nat→Prop}:∀l:List ByteArray,D.aL w P (l.map D.s) (l.map Value.string)
 | []=>by simp only[GC,D.aL]
 | x::l=>by simp only[Gh];exact ca.2 ⟨_,rfl,l7 l⟩
theorem uV{w:World}{P:Nat→Prop}:∀(l:GS) (xs:List Value),D.aL w P (l.map D.s) xs→xs=l.map Value.string
 | [],xs,h=>by simpa only[GC,D.aL] using h
 | x::l,xs,h=>by
  simp only[Gh] at h;obtain⟨y,rfl,J⟩:=ca.1 h;rw[Gh,uV l y J]
theorem rV{w:World}{P:Nat→Prop}{A:GR}{n:Nat}{l:GS}(h:Sl w P A n (l.map D.s)):Src w 1 A n (l.map Value.string):=by
 obtain⟨xs,aX,hs⟩:=h.src (z:=1) (fun d hd=>by obtain⟨x,_,rfl⟩:=GD.1 hd;rfl)
 rwa [uV l xs aX] at hs
theorem r0(p:jr)(bM:Nat)(dw:∀R,R<bM→Ey p R):Ey p bM:=by
 intro d f V T U aF ak bc ps QA ch qc bP w hd o hw cj dS bX bi bu;obtain⟨s,wb,bN,bG,bq,sl,GA,gn,gc,MA,mn,mc,FA,fn,fc,M,F,ar⟩:=p;have a2:=hw.ne;have b0:=hw.src.lt;have cz:=hw.blk.lt;have ca:V.length=aF:=by have:=cj.1;simpa using this
 simp only at a2 b0 cz;have H:=cA hw cj bi bX dw;clear hw cj bi bX dw;go_enter func74,ntmps74;go_upto_region 2 with(fail);generalize bg:World.alloc _ _=W;have av:Ext w W:=bg▸GN.alloc _;have aq:ag W w.heap.size 140 #[.string bc,.slice QA ch qc,bP]:=bg▸GO;have cH:W.heap.size=w.heap.size+1:=by rw[←bg];simp
 have b2:Gr (fun _=>False) (w.heap.size+1) 9 1 (W.alloc (.cells #[] 9)) (some ⟨W.heap.size,0,none⟩) 0 0 []:=(Gr.lit (w:=W) (n:=0) (l:=[]) rfl (by rfl) ad (by simp only[D.aL])).base ad;rw[cH] at b2;have aC:Src (W.alloc (.cells #[] 9)) 1 U aF (V.map Value.string):=rV (Sl.cZ H.2.1 ((av.mono fun _ h=>h.elim).alloc _));have r:U=none→aF=0:=fun h=>by subst h;exact Sl.none_ H.2.1
 have cf:w.heap.size+1≤(W.alloc (.cells #[] 9)).heap.size:=by simp;omega
 have aj:=ai av aq;clear bg av aq;go_upto_region 3 with(at_builtin;refine oM jt rfl (.tmp 17) (.tmp 18) rfl b2 (l7 V) (by simpa using ca) aC r rfl rfl ad ad cf ?_;intro cl c3 bJ bo P bV aW;have az:=ai bo P;clear bo P bV aW);have ay:Ext W bJ:=(GN.alloc _:Ext W (W.alloc (.cells #[] 9))).eg (az.2.below (by simp) fun k ap h=>by
  simp[Value.ownBlock] at h;omega)
 have bA:=H.1.al (aj.1.trans ay);obtain⟨a0,al,af⟩:=bA.blk.two;have bH:=aK bA ay az.1;clear bA ay az b2 aC r;go_wp2_with (fail);refine(aN bJ s bN bG bq sl ((f:Int)+1) bH.1.src ad ad).mono ?_;rintro e cy ⟨cm,rfl,aG,bF,h,he⟩;have t:Fr (fun b=>b=s) w cy:=((aj.1.trans bH.2.1).mono fun _ h=>h.elim).trans he.fr;have i:=bH.1.next h he.fr;have m:=bH.2.2.cZ he.fr fun b O _=>⟨fun h=>h,ad⟩
 simp only[Gv,GG] at m;have g:=(aj.2.al bH.2.1).on he.fr ad;have Z:bM≤24:=H.1.jE;have cW:=ae (show Fv ⟨s,wb,bN,bG,bq,sl,GA,gn,gc,MA,mn,mc,FA,fn,fc,M,F,ar⟩ w.heap.size (w.heap.size+1) (.agg #[.string bc,.slice QA ch qc,bP]) (.int .i64 (f:Int)) d ps V T w bM bc QA ch qc bP cl aF c3 none 0 0 cm cy from
  ⟨V,[],bM,ad,⟨i.src,i.blk,t.mono fun _ h=>.inl h,Z⟩,g,⟨Gr.strs m,Gr.nil _ _ _ _ _,fun b _ h=>by cases h⟩,Made.nil _ _ _ _ _,fun x hx=>Gk.2 (.inl hx),dS⟩)
 clear h he t i m g a0 al af bH;skip
 go_wp2_with (fail);refine Et ⟨s,wb,bN,bG,bq,sl,GA,gn,gc,MA,mn,mc,FA,fn,fc,M,F,ar⟩ w.heap.size (w.heap.size+1) (.agg #[.string bc,.slice QA ch qc,bP]) (.int .i64 (f:Int)) d ps V T w bM bc QA ch qc bP H.1 H.2.2.1 (Gb _) ad (Gb _) bu hd H.2.2.2.1 H.2.2.2.2 _ ?aU ?ah cl aF c3 none 0 0 cm cy cW.o
 case aU=>exact fun _ _ d _ _ h=>by cases d<;>exact h
 case ah=>
  intro I wf hI;unfold oU at hI;obtain⟨z,aB,Y,ao,Ez,ax,hI⟩:=hI
  iterate 242 obtain⟨_,hI⟩:=hI
  obtain⟨⟨be,ls,L,_,hC,cq,bR,a5,hV,j⟩,rfl⟩:=hI;have bW:=aK hC bR a5;clear hC cq bR a5 hV j cW;go_wp2;go_ret;obtain⟨hC,bR,a5⟩:=bW.o;exact⟨ls,L,ao,Ez,ax,rfl,a5,bR.two.cap.1,bR.two.sl (fun b O hp=>⟨by have:=hp.1;omega,O⟩) (fun b O hp=>⟨ad,O⟩),hC.wr H.1,hC.fr⟩
theorem tX(p:jr):∀L,Ey p L:=fun L=>by
 induction L using Nat.strongRecOn with
 | _ L aa=>exact r0 p L aa
end Go.Proofs.YtjhgbdckgkppnaaGreat
