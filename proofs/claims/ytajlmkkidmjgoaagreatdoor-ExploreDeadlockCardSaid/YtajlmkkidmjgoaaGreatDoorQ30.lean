/- Part 30 of the proof. No condition of its own. -/
import Derived.Test.YtajlmkkidmjgoaaGreatDoorQ18
import Derived.Test.YtajlmkkidmjgoaaGreatDoorQ28
namespace Go.Proofs.YtajlmkkidmjgoaaGreatDoor
open Go.RowKit Go.Proofs.Tryz
set_option maxRecDepth 1000000
set_option maxHeartbeats 25600000
set_option linter.unusedVariables false
variable{t:Int}{q:List Int}{R i:Nat}{p:Prop}{w:World}{s:ah}{e:du}
namespace zC
theorem ot(h:p:=by
 exact gE.simple (st:=.ite x (.ez P) .nil) ⟨s,wb,bu,bM,br,sl,GA,gn,gc,MA,mn,mc,FA,fn,fc,M,F,ar⟩ aN B ct bV d ps V T ls N L aw bc QA cc qc bR bH.1 dq cj bH.2.2.2.1 ce.1 b0 c2 aS bI.1 bK (eg (aW.2 ⟨cy,cp,cD,rfl,a8.2.2.2.1,bI.2.2.2.1⟩) km (Sl.bH _) (Hx _) bI.2.2.2.2 bs.2.2.2.1 (Sl.bH _) (Hx _)) ⟨i,j.1,ds ce.1 2 x a8.2.2.1,(cV _ i i a1 _ _ _ ce.1 (λ_ _ h=>h) (Hx _) bs.2.2.1.wf),mE⟩ (λn hn=>by simp only[ay.all,ak.all,IB] at hn;obtain⟨k,ac,J,aR⟩:=bs.2.2.1.all n hn;exact⟨k,ac,ad,aR⟩) (by simp only[ay.num,ak.num];omega) dl bD.2.2 bH.2.1
 ):p:=h
theorem yv(h:p:=by
 obtain⟨aI,aj,af⟩:=aV.1.blk.two;go_wp2_with(fail);refine(aX X s bu bM br sl 2 aV.1.src ad ad).mono ?_;rintro e b4 ⟨cm,rfl,bg,bo,h,he⟩;have ag:=he.fr;have dx:s<X.heap.size:=aV.1.src.lt;have a5:=aV.1.next aZ h ag;have bO:=aV.2.1.on ag ad;have bI:=cK a5 bO (aV.2.2.1.on ag Z) (aV.2.2.2.1.A9 ag λb O=>ad) (aV.2.2.2.2.A9 ag λb O=>ad);have bx:S.heap.size<b4.heap.size:=bO.lt;have b1:=ai ag.size (λb (ac:b<X.heap.size) (J:¬b=s)=>ag.block b ac J);clear aI aj af h he ag a5 bg bo bO;have aq:=bs.2.2.1.num;by_cases ap:cm=1
 case neg=>
  have q:(cm == 1)=false:=by simpa using ap
  clear ap;go_wp2_with(fail);have bK:=bI.2.1;exact oq
 case pos=>
  have q:(cm == 1)=true:=by simpa using ap
  clear ap;obtain⟨be,am,aH⟩:=bI.2.2.1.two;go_wp2_with(fail)
  first
   | rw[j.2,show IntKind.i64.wrap ((i:Nat):Int)=((i:Nat):Int) from IntWalk.i64_in _ ad]
   | rw[j.2]
  refine(ce.2.2 aY ad i 3 a1 (T++decls ls) av bq ax bc ps QA cc qc bR b4 ad ad (bI.1.wr bH.1) (Sl.dh bH.2.2.2.2.1 bI.1.fr) ad (λk ap=>ce.2.1 k ad) (Sl.dh bH.2.2.1 bI.1.fr) bp).mono ?_;rintro e eG ⟨W,a0,aK,bk,bt,rfl,dz,cf,bz,aM,aa⟩;have u:¬(S.heap.size=s\/S.heap.size=wb):=ad;have U:=bI.2.1.on aa u;have aE:a0<=aY:=dz.le;have bG:=eU (bI.1.E4 aM aa) U dz cf bz aa;clear dz cf bz aM aa be am aH;obtain⟨d0,aP,aQ⟩:=U.two;clear U;go_wp2_with(fail);generalize ca:World.setCell _ _ _=Y;have aA:=cT ca;have bK:an Y S.heap.size 153 #[.int .i64 7,.string ⟨#[]⟩,.int .i64 x.aZ,.int .i64 x.numOf,.string x.bg,.slice cy cp cD,.string ⟨#[]⟩,.slice none 0 0,.slice none 0 0,.slice m aG bX,.slice aK bk bt]:=ca▸bG.2.1.aI 10 _;clear ca d0 aP aQ;have z:=bG.2.2.2.2.2;have bl:=bG.2.2.1.num;have bS:∀b,S.heap.size<=b->¬(b=s\/b=wb):=λb O h=>ad;have bj:Sl X (λb=>S.heap.size<b/\b<X.heap.size) cy cp (x.args.map a7):=az.1;have a9:Sl X (λb=>S.heap.size<b/\b<X.heap.size) m aG (cL (.ez P)):=az.2;have b5:∀b,S.heap.size<b->b<X.heap.size->Y.heap[b]?=X.heap[b]?:=λb ac J=>(aA.block b (mI b1.1 z.size) ad).trans ((z.block b (aC b1.1) (bS b ad)).trans (b1.2 b J ad));have b9:X.heap.size<=Y.heap.size:=by have:=b1.1;have:=z.size;have:=aA.size;omega
  have bn:Sl Y (fresh S Y) cy cp (x.args.map a7):=(bj.al λb O=>b5 b O.1 O.2).mono λb O=>⟨by have:=O.1;omega,by have:=O.2;omega⟩
  have bm:Sl Y (fresh S Y) m aG (cL (.ez P)):=(a9.al λb O=>b5 b O.1 O.2).mono λb O=>⟨by have:=O.1;omega,by have:=O.2;omega⟩
  have a4:Sl Y (fresh S Y) aK bk (cL (.ez W)):=by
   rw[l2];exact(bG.2.2.2.2.1.al λb O=>aA.block b O.2 (aC O.1)).mono λb O=>⟨by have:=O.1;omega,by have:=O.2;have:=aA.size;omega⟩
  try refine hN _ _ ?_
  unfold la;refine⟨av,bq,ax,bw,on,bL,?_⟩
  iterate 240 apply Exists.intro
  refine⟨?_,rfl⟩;exact gE.simple (st:=.ite x (.ez P) (.ez W)) ⟨s,wb,bu,bM,br,sl,GA,gn,gc,MA,mn,mc,FA,fn,fc,M,F,ar⟩ aN B ct bV d ps V T ls N L aw bc QA cc qc bR bH.1 dq cj bH.2.2.2.1 ce.1 b0 c2 aS (bG.1.fresh bH.1 aA λb O=>ad) bK (eg (aW.2 ⟨cy,cp,cD,rfl,a8.2.2.2.1,bn⟩) km (Sl.bH _) (Hx _) bm bs.2.2.2.1 a4 bG.2.2.2.1) ⟨i,j.1,ds ce.1 2 x a8.2.2.1,(cV _ i i a1 _ _ _ ce.1 (λ_ _ h=>h) (Hx _) bs.2.2.1.wf),(cV _ i i a1 _ _ _ ce.1 (λ_ _ h=>h) (Hx _) bG.2.2.1.wf)⟩ (λn hn=>by simp only[ay.all] at hn;exact(Ii.1 hn).elim (λhn=>by obtain⟨k,ac,J,aR⟩:=bs.2.2.1.all n hn;exact⟨k,ad,ad,aR⟩) (λhn=>by obtain⟨k,ac,J,aR⟩:=bG.2.2.1.all n hn;exact⟨k,ac,ad,aR⟩)) (by simp only[ay.num];omega) ad bD.2.2 bH.2.1
 ):p:=h
theorem yp(h:p:=by
 have bQ:an X S.heap.size 153 #[.int .i64 7,.string ⟨#[]⟩,.int .i64 x.aZ,.int .i64 x.numOf,.string x.bg,.slice cy cp cD,.string ⟨#[]⟩,.slice none 0 0,.slice none 0 0,.slice m aG bX,.slice none 0 0]:=hX▸(((((bs.2.1.aI 0 _).aI 2 _).aI 3 _).aI 4 _).aI 5 _).aI 9 _;exact yu
 ):p:=h
theorem y5(h:p:=by
 go_upto_region 30 with(fail);exact zd
 ):p:=h
theorem lg(h:p:=by
 exact y4
 ):p:=h
end zC
open zC in
theorem Ge(d bq:Nat)(bE:0<d):SK 11 d bq:=by
 exact ld
theorem l6{α:Type}(f:α->ByteArray)(k:Int):∀(l:List α) (j i:Nat),(hT f k l j)[i]?=(l[i]?).map λx=>⟨f x,k,((j+i:Nat):Int)⟩
 | [],j,i=>by simp[hT]
 | x::l,j,0=>by simp[hT]
 | x::l,j,i+1=>by
  rw[hT,List.getElem?_cons_succ,List.getElem?_cons_succ,l6 f k l (j+1) i,show j+1+i=j+(i+1) by omega]
theorem ei{α:Type}(f:α->ByteArray)(k:Int):∀(l:List α) (j:Nat),(hT f k l j).length=l.length
 | [],_=>rfl
 | x::l,j=>by simp[hT,ei f k l (j+1)]
theorem ky(p:bC):(a6 p).length=p.globals.length+p.af.length+p.funcs.length:=by simp[a6,ei];omega
theorem CI{p:bC}{g:ByteArray×Int}(h:p.globals[i]?=some g):(a6 p)[i]?=some ⟨g.1,1,(i:Int)⟩:=by
 have hl:=(List.getElem?_eq_some_iff.1 h).1;unfold a6;rw[List.getElem?_append_left (by simp[ei];omega),List.getElem?_append_left (by simp[ei];omega),l6,h];simp
theorem CJ{p:bC}{m:bJ}(h:p.af[i]?=some m):(a6 p)[p.globals.length+i]?=some ⟨m.name,2,(i:Int)⟩:=by
 have hl:=(List.getElem?_eq_some_iff.1 h).1;unfold a6;rw[List.getElem?_append_left (by simp[ei];omega),List.getElem?_append_right (by simp[ei]),ei,l6,show p.globals.length+i - p.globals.length=i by omega,h];simp
theorem v3{p:bC}{f:aE}(h:p.funcs[i]?=some f):(a6 p)[p.globals.length+p.af.length+i]?=some ⟨f.name,3,(i:Int)⟩:=by
 unfold a6;rw[List.getElem?_append_right (by simp[ei]),Hz,ei,ei,l6,show p.globals.length+p.af.length+i - (p.globals.length+p.af.length)=i by omega,h];simp
theorem kb{L:List du}(hn:(L.map (·.name)).Nodup)(he:L[i]?=some e):de (L.take i) e.name=none:=by
 refine ju λj x a1 hx=>?_;have G:j<i:=by have:=(List.getElem?_eq_some_iff.1 a1).1;simp at this;omega
 have f:L[j]?=some x:=by rw[<-a1,List.getElem?_take_of_lt G]
 have ac:(L.map (·.name))[j]?=some x.name:=by rw[List.getElem?_map,f];rfl
 have J:(L.map (·.name))[i]?=some e.name:=by rw[List.getElem?_map,he];rfl
 have bf:=(List.getElem?_eq_some_iff.1 ac).1;have cc:=(List.getElem?_eq_some_iff.1 J).1;rw[List.getElem?_eq_getElem bf] at ac;rw[List.getElem?_eq_getElem cc] at J;injection ac with ac;injection J with J;have:=(List.getElem_inj hn).1 (ac.trans (hx.trans J.symm));omega
theorem nj{p:bC}(hp:pH p):((a6 p).map (·.name)).Nodup:=by rw[fC];exact hp.nodup
def Cu(w:World)(p:bC)(e:Ending)(ab:World):Prop:=∃(bo:IP) (lc:Nat),e=.returned (.tuple #[.slice bo (a6 p).length lc,.int .i64 (-1)])/\Sl ab (fresh w ab) bo (a6 p).length ((a6 p).map bP)/\Ext w ab
theorem m7{p:bC}{k:Nat}(h:(a6 p)[k]?=some e):((a6 p).take (k+1)).map bP=((a6 p).take k).map bP++[bP e]:=by rw[a0 h,Ig];rfl
namespace zM
theorem fP(h:p:=by
 generalize hV:World.drew (World.alloc _ _)=V;have T:=gX hV;have bK:an V wr.heap.size 113 #[.string f.name,.int .i64 3,.int .i64 j]:=hV▸(IL).drew;obtain⟨aE,aJ⟩:=aN T bK;have a3:=ae (bf.trans T);have b6:=ae (a7.aj T);have X:=ae (bx.aj T);have aK:=kb n.o d;have y:=X.sl (Q:=av V) (λb _ h=>h.elim) (λb _ h=>by assumption);clear hV T bK c0 aX aI aj af;obtain⟨d0,aP,aQ⟩:=aJ.two;go_wp2_with(fail);refine(dH A (gn+mn+j) c _ f.name _ y ad).mono ?_;rintro e aO ⟨rfl,ar⟩
 try simp only at aK
 rw[aK];simp only[im];have bl:=ae (a3.trans ar);have bI:=ae (b6.aj ar);have b1:=ae (X.aj ar);have i:=aJ.aj ar;clear d0 aP aQ ar y;go_upto_region 15 with(fail);generalize ca:World.alloc _ _=Y;have s:=bm ca;have l:=i.aj s;have r:=ae (b1.aj s);have cv:=ae (bl.trans s);have cG:=ae (bI.aj s);clear ca i s;obtain⟨d0,aP,aQ⟩:=l.two;have cu:=cv.size;have v:=cG.lt;clear l;go_wp2_with((at_builtin;refine bN iA rfl (.tmp 88) (.tmp 90) rfl r.o (jt ⟨f.name,3,(j:Int)⟩) rfl rfl rfl ad ad ad ?_;intro A2 c2 aT bb az b5 cf));have bt:Gr (λ_=>False) (w.heap.size+1) 113 3 aT A2 (gn+mn+j+1) c2 (((a6 p).take (gn+mn+j+1)).map bP):=by rw[m7 d];exact bb
 have cj:Ext w aT:=Fr.low (M:=λb=>w.heap.size<=b) ((cv.mono λ_ h=>h.elim).trans (az.mono λb O=>by have:=(r.lt O).1;omega)) λ_ h=>h;have bJ:=cG.on az λO=>by have:=(r.lt O).1;omega
 have b2:=aL bt cj bJ;clear bt cj bJ bb az b5 d0 aP aQ;go_wp2;go_roundw
 case rel=>exact⟨rfl,(gn+mn+j)+1,A2,c2,ad,by go_num,rfl,b2.o⟩
 case measure=>exact aF
 ):p:=h
theorem qZ(h:p:=by
 have n:=ae (nj hp);obtain⟨cH,eV,bV⟩:=eD aM hm aA;have F:=ae (ky p);have b7:(a6 p).length=gn+mn+fn:=by rw[ky,dt,lm,lf]
 have bL:=aL dt lm lf;clear h aM hm aA hp dt lm lf;go_enter func33,ntmps33;go_upto_region 1 with(fail);generalize ba:World.alloc _ _=W;have aw:=bm ba;have aS:=aU ba;obtain⟨bf,a7⟩:=aN aw aS;obtain⟨aI,aj,af⟩:=aS.two;clear ba aw aS;go_wp2;clear aI aj af;go_loopw [4,5,7] (λgN bv ci wr=>bv=.int .i64 (-1)/\∃(k:Nat) (A:IP) (c:Nat),k<=gn+mn+fn/\ci=.int .i64 k/\gN=.slice A k c/\Gr (λ_=>False) (w.heap.size+1) 113 3 wr A k c (((a6 p).take k).map bP)/\Ext w wr/\an wr w.heap.size 27 #[.slice GA gn gc,.slice MA mn mc,.slice FA fn fc]) (λ_ _ ci _=>gn+mn+fn - (intOf ci).toNat)
 case atStart=>exact⟨rfl,0,none,0,ad,rfl,rfl,Gr.nil _ _ _ _ _,bf.o,a7.o⟩
 case round=>
  obtain⟨rfl,k,A,c,ap,rfl,rfl,bS,aw,aS⟩:=hrel;clear bf a7;obtain⟨bx,bf,a7⟩:=eD bS aw aS;obtain⟨aI,aj,af⟩:=aS.two;have gp:=aw.size;clear bS aw aS;by_cases al:k<gn+mn+fn
  .by_cases ac:k<gn
   ·
    obtain⟨b,o,g,cs,rfl,O,hx,aY,bd,Z⟩:=(cH.on (Fr.ext bf.o)).gH nY ac;obtain rfl:=l3.1 aY;have c0:=Z 0 _ rfl;simp only[Ij] at c0;have aX:b<wr.heap.size:=O;have d:=CI hx;have q1:decide ((k:Int) - (gn:Int)<0)=true:=by first|(simp;done)|(simp;omega)
    clear aY bd Z hx O;go_upto_region 14 with(fail);generalize hV:World.alloc _ _=V;have T:=bm hV;have bK:=aU hV;obtain⟨aE,aJ⟩:=aN T bK;have a3:=ae (bf.trans T);have b6:=ae (a7.aj T);have X:=ae (bx.aj T);have aK:=kb n.o d;have y:=X.sl (Q:=av V) (λb _ h=>h.elim) (λb _ h=>by assumption);clear hV T bK c0 aX aI aj af;obtain⟨d0,aP,aQ⟩:=aJ.two;go_wp2_with(fail);refine(dH A k c _ g.1 _ y ad).mono ?_;rintro e aO ⟨rfl,ar⟩
    try simp only at aK
    rw[aK];simp only[im];have bl:=ae (a3.trans ar);have bI:=ae (b6.aj ar);have b1:=ae (X.aj ar);have i:=aJ.aj ar;clear d0 aP aQ ar y;go_upto_region 15 with(fail);generalize ca:World.alloc _ _=Y;have s:=bm ca;have l:=i.aj s;have r:=ae (b1.aj s);have cv:=ae (bl.trans s);have cG:=ae (bI.aj s);clear ca i s;obtain⟨d0,aP,aQ⟩:=l.two;have cu:=cv.size;have v:=cG.lt;clear l;go_wp2_with((at_builtin;refine bN iA rfl (.tmp 88) (.tmp 90) rfl r.o (jt ⟨g.1,1,(k:Int)⟩) rfl rfl rfl ad ad ad ?_;intro A2 c2 aT bb az b5 cf));have bt:Gr (λ_=>False) (w.heap.size+1) 113 3 aT A2 (k+1) c2 (((a6 p).take (k+1)).map bP):=by rw[m7 d];exact bb
    have cj:Ext w aT:=Fr.low (M:=λb=>w.heap.size<=b) ((cv.mono λ_ h=>h.elim).trans (az.mono λb O=>by have:=(r.lt O).1;omega)) λ_ h=>h;have bJ:=cG.on az λO=>by have:=(r.lt O).1;omega
    have b2:=aL bt cj bJ;clear bt cj bJ bb az b5 d0 aP aQ;go_wp2;go_roundw
    case rel=>exact⟨rfl,k+1,A2,c2,ad,by go_num,rfl,b2.o⟩
    case measure=>exact aF
   .by_cases J:k - gn<mn
    ·
     obtain⟨b,o,m,cs,rfl,O,hx,aY,bd,Z⟩:=(eV.on (Fr.ext bf.o)).gH rb J;obtain rfl:=eN.1 aY;have c0:=Z 0 _ rfl;simp only[Ij] at c0;have aX:b<wr.heap.size:=O;have d:=CJ hx;obtain⟨j,a1⟩:∃j,k=gn+j:=⟨k - gn,ad⟩
     subst a1;have f0:gn+j - gn=j:=ad;rw[f0] at c0 J d hx;rw[bL.1] at d;have am:(gn:Int)+(j:Int) - (gn:Int)=(j:Int):=ad;have q1:decide ((j:Int)<0)=false:=by first|(simp;done)|(simp;omega)
     have dq:((j:Int)<(mn:Int)):=ad;clear aY bd Z hx O;go_upto_region 14 with(fail);generalize hV:World.alloc _ _=V;have T:=bm hV;have bK:=aU hV;obtain⟨aE,aJ⟩:=aN T bK;have a3:=ae (bf.trans T);have b6:=ae (a7.aj T);have X:=ae (bx.aj T);have aK:=kb n.o d;have y:=X.sl (Q:=av V) (λb _ h=>h.elim) (λb _ h=>by assumption);clear hV T bK c0 aX aI aj af;obtain⟨d0,aP,aQ⟩:=aJ.two;go_wp2_with(fail);refine(dH A (gn+j) c _ m.name _ y ad).mono ?_;rintro e aO ⟨rfl,ar⟩
     try simp only at aK
     rw[aK];simp only[im];have bl:=ae (a3.trans ar);have bI:=ae (b6.aj ar);have b1:=ae (X.aj ar);have i:=aJ.aj ar;clear d0 aP aQ ar y;go_upto_region 15 with(fail);generalize ca:World.alloc _ _=Y;have s:=bm ca;have l:=i.aj s;have r:=ae (b1.aj s);have cv:=ae (bl.trans s);have cG:=ae (bI.aj s);clear ca i s;obtain⟨d0,aP,aQ⟩:=l.two;have cu:=cv.size;have v:=cG.lt;clear l;go_wp2_with((at_builtin;refine bN iA rfl (.tmp 88) (.tmp 90) rfl r.o (jt ⟨m.name,2,(j:Int)⟩) rfl rfl rfl ad ad ad ?_;intro A2 c2 aT bb az b5 cf));have bt:Gr (λ_=>False) (w.heap.size+1) 113 3 aT A2 (gn+j+1) c2 (((a6 p).take (gn+j+1)).map bP):=by rw[m7 d];exact bb
     have cj:Ext w aT:=Fr.low (M:=λb=>w.heap.size<=b) ((cv.mono λ_ h=>h.elim).trans (az.mono λb O=>by have:=(r.lt O).1;omega)) λ_ h=>h;have bJ:=cG.on az λO=>by have:=(r.lt O).1;omega
     have b2:=aL bt cj bJ;clear bt cj bJ bb az b5 d0 aP aQ;go_wp2;go_roundw
     case rel=>exact⟨rfl,(gn+j)+1,A2,c2,ad,by go_num,rfl,b2.o⟩
     case measure=>exact aF
    ·
     have aR:k - gn - mn<fn:=ad;obtain⟨b,o,f,cs,rfl,O,hx,aY,bd,Z⟩:=(bV.on (Fr.ext bf.o)).gH oL aR;obtain⟨PA,pn,pc,aW,bn,bc,rfl,_,_⟩:=j7 aY;have c0:=Z 0 _ rfl;simp only[Ij] at c0;have aX:b<wr.heap.size:=O;have d:=v3 hx;obtain⟨j,a1⟩:∃j,k=gn+mn+j:=⟨k - gn - mn,ad⟩
     subst a1;have f0:gn+mn+j - gn - mn=j:=ad;rw[f0] at c0 aR d hx;rw[bL.1,bL.2.1] at d;have am:(gn:Int)+(mn:Int)+(j:Int) - (gn:Int)=(mn:Int)+(j:Int):=ad;have aa:(mn:Int)+(j:Int) - (mn:Int)=(j:Int):=ad;have q1:decide ((mn:Int)+(j:Int)<0)=false:=by first|(simp;done)|(simp;omega)
     have dq:decide ((mn:Int)+(j:Int)<(mn:Int))=false:=by first|(simp;done)|(simp;omega)
     have q:IntKind.i64.wrap (j:Int)=j:=IntWalk.i64_in _ ad;clear aY bd Z hx O;go_wp2;refine eB (λ_=>False) [(0,3),(1,0),(2,3),(3,3),(4,0),(5,3),(6,3),(7,3),(8,3),(9,0),(10,3),(11,3),(12,0),(13,3),(14,3),(15,3),(16,2)] ?_;refine pf ?_;refine ph ?_
     iterate 2 refine pf ?_
     refine ph ?_
     iterate 4 refine pf ?_
     refine ph ?_
     iterate 2 refine pf ?_
     refine ph ?_
     iterate 3 refine pf ?_
     exact fO
  .obtain rfl:gn+mn+fn=k:=ad;go_wp2
   go_ret2
   refine⟨A,c,by rw[b7];rfl,?_,bf.o⟩;have:=bx.o;rw[Ih ad] at this;rw[b7];exact this.sl (λb _ h=>h.elim) λb ac J=>⟨ad,ac⟩
 ):p:=h
theorem tF(h:p:=by
 exact qY
 ):p:=h
end zM
open zM in
theorem q9(p:bC)(hp:pH p)(GA:IP)(gn gc:Nat)(MA:IP)(mn mc:Nat)(FA:IP)(fn fc:Nat)(w:World)(h:hG w (av w) p GA gn MA mn FA fn) :
  Calls prog 33 #[.agg #[.slice GA gn gc,.slice MA mn mc,.slice FA fn fc]] w (Cu w p):=by
 exact tE
theorem A7(w:World)(b i:Nat)(v:Value):Fr (λk=>k=b) w.drew (w.setCell ⟨b,i,none⟩ v).drew:=
 have h:=(Fr.refl (λk=>k=b) w).setCell (p:=⟨b,i,none⟩) (.inl rfl) v
 ⟨h.os,h.tape,h.output,h.size,h.block⟩
theorem ss{M:Nat->Prop}{ab:World}(h:Fr M w ab):Fr M w.drew ab.drew:=⟨h.os,h.tape,h.output,h.size,h.block⟩
theorem pq:∀(ps:List (ByteArray×Bool)) (q:ByteArray×Bool) (i k:Int),dB (ps++[q]) i k=dB ps i k++[if q.2 then ⟨q.1,5,k+bD ps⟩ else ⟨q.1,4,i+bX ps⟩]
 | [],(s,true),i,k=>by simp[dB,bD]
 | [],(s,false),i,k=>by simp[dB,bX]
 | (x,true)::ps,q,i,k=>by
  have:=(gr x true ps).2;have J:=(gr x true ps).1;rw[Ip,dB,dB,pq ps q i (k+1),this,J];simp
  split<;>simp<;>omega
 | (x,false)::ps,q,i,k=>by
  have:=(gr x false ps).2;have J:=(gr x false ps).1;rw[Ip,dB,dB,pq ps q (i+1) k,this,J];simp;split<;>simp<;>omega
theorem kP(ps:List (ByteArray×Bool))(q:ByteArray×Bool):bX (ps++[q])=bX ps+(if q.2 then 0 else 1)/\bD (ps++[q])=bD ps+(if q.2 then 1 else 0):=by
 obtain⟨s,b⟩:=q;cases b<;>simp[bX,bD]
theorem w4{P:Nat->Prop}{p:c7}{cs:List Value}:(fQ p).rep w P cs↔∃A n c,cs=[.string p.name,.int .i64 p.ints,.int .i64 p.aw,.int .i64 p.locals,.slice A n c]/\n<=c/\Sl w P A n (p.code.map dN):=by
 unfold fQ;rw[bw,b9];constructor
 .rintro⟨y,rfl,h⟩;exact DX
 .rintro⟨A,n,c,rfl,hc,hs⟩;exact⟨_,rfl,a2.2 ⟨_,rfl,a2.2 ⟨_,rfl,a2.2 ⟨_,rfl,aA.2 ⟨A,n,c,[],rfl,hc,hs,aM.2 rfl⟩⟩⟩⟩⟩
def Fy(w:World)(x:c7)(e:Ending)(ab:World):Prop:=∃(A:IP) (n c:Nat) (bE:IP) (bM br:Nat),
 e=.returned (.tuple #[.agg #[.string x.name,.int .i64 x.ints,.int .i64 x.aw,.int .i64 x.locals,.slice A n c],.slice bE bM br,.int .i64 0,.int .i64 0])/\(fQ x).rep ab (fresh w ab) [.string x.name,.int .i64 x.ints,.int .i64 x.aw,.int .i64 x.locals,.slice A n c]/\Ext w ab
namespace zN
theorem fP(h:p:=by
 clear be am aH;generalize hX:World.setCell _ _ _=X;have bT:=cT hX;have a3:=b2.2.2.2.2.2.1.on bT ad;have m:an X g 165 #[.slice GA gn gc,.slice MA mn mc,.slice FA fn fc,.slice A2 (ln+k+1) c2,.int .i64 0,.int .i64 0,.int .i64 0,.int .i64 0,.slice none 0 0,.slice none 0 0]:=hX▸b2.2.2.2.2.1.aI 3 _;have aV:=ai bT m;clear c0 cA bN hX bT m;obtain⟨c0,cA,bN⟩:=a3.two;have c8:=ae a3;clear a3;have L:=mf (f.params.take k);have ax:=h3 (f.params.take k);have c6:(f.params.take k).length<=2:=by rw[List.length_take];omega
 have d2:wrap64 (bD (f.params.take k)+1)=bD (f.params.take k)+1:=IntWalk.wrap64_in _ ad;go_upto_region 5 with(fail);generalize b4:World.setCell _ _ _=cQ
 try rw[d2] at b4
 have ak:=cT b4;obtain⟨bb,cH,cd,cX,_,_,cg⟩:=b2.o;obtain⟨bT,m⟩:=aV.o;have aZ:=(ay.o:W.heap.size<=g)
 have r1:Gr (λ_=>False) W.heap.size 113 3 cQ A2 (ln+(k+1)) c2 ((a6 p++dB (f.params.take (k+1)) 0 0).map bP):=by
  exact DN
 have f0:Ext w cQ:=Fr.low (M:=λb=>w.heap.size<=b) ((cH.mono λ_ h=>h.elim).trans ((bT.mono λb O=>ad).trans (ak.mono λb O=>ad))) λ_ h=>h;have gK:=(cd.on bT ad).on ak ad;have c3:=(cX.on bT ad).on ak ad;have rg:=m.on ak ad;have ro:an cQ o 118 #[.string f.name,.int .i64 (bX (f.params.take (k+1))),.int .i64 (bD (f.params.take (k+1))),.int .i64 0,.slice none 0 0]:=by
  rw[a0 bG.o,(kP _ _).1,(kP _ _).2,bR,<-b4];simpa using c8.aI 2 _
 exact DZ
 ):p:=h
theorem gj(h:p:=by
 refine tf ?_;refine cr ?_;generalize ca:World.setCell _ _ _=Y;obtain⟨_,s,_⟩:=oS bK bg aZ ca;have ef:=ae (bf.trans s);have S:=ao.aj s;have ec:=ae S;have dv:=ae (bv.aj s);have c4:=br.aj s;have cV:=bM.aj s;have cD:=ae (bx.aj s);replace h0:=(s.cell N (λh=>h)).trans h0
 replace ce:=(s.cell N (λh=>h)).trans ce
 have cu:=s.size;replace N:pb<Y.heap.size:=Hy N cu
 clear ca c0 cA bN bK bg aZ s aI aj af be am aH br bM;obtain⟨br,bM⟩:=aN c4 cV;obtain⟨aI,aj,af⟩:=S.two;obtain⟨be,am,aH⟩:=c4.two;obtain⟨c0,cA,bN⟩:=cV.two;clear S c4 cV;have cW:¬Y.heap.size<=g:=ad;have er:¬Y.heap.size<=o:=ad;have em:¬Y.heap.size<=w.heap.size+1:=ad;have es:¬Y.heap.size<=pb:=ad
 cases bR:q.2 with
 | true=>
  rw[bR] at ce;go_wp2;refine eB (λb=>Y.heap.size<=b) [(0,3),(1,3),(2,3),(3,3),(4,0),(5,3),(6,0),(7,3),(8,3),(9,3),(10,0),(11,3),(12,0),(13,3),(14,1),(15,2),(16,3),(17,3),(18,2)] ?_
  iterate 4 refine pf ?_
  refine m0 ?_;refine pf ?_;refine m0 ?_
  iterate 3 refine pf ?_
  refine m0 ?_;refine pf ?_;refine m0 ?_;refine pf ?_;refine p2 ?_;generalize hV:World.drew (World.alloc _ _)=di;have e1:=gX hV;have cp:an di Y.heap.size 113 #[.string q.1,.int .i64 5,.int .i64 (bD (f.params.take k))]:=hV▸(IL).drew;clear hV;refine au rfl (λK hK=>?_);rw[if_pos (by rfl)];refine eK iA (.tmp 57) (.tmp 67) (by rfl) (cD.aj e1) cp (jt ⟨q.1,5,bD (f.params.take k)⟩) (by rfl) (by rfl) (by rfl) ad ad (aC e1.size) ?_;intro A2 c2 eG bb az b5 cf;have cH:Ext w eG:=Fr.low (M:=λb=>w.heap.size<=b) (((ef.trans e1).mono λ_ h=>h.elim).trans (az.mono λb O=>by have:=(cD.lt O).1;omega)) λ_ h=>h;have I:∀b,(Value.slice A (ln+k) c).ownBlock=some b->W.heap.size<=b/\b≠g/\b≠o:=λb O=>⟨(cD.lt O).1,λe=>by subst e;exact bH.1 O,λe=>by subst e;exact bH.2 O⟩
  have cd:=(ec.aj e1).on az λO=>by have:=(I _ O).1;omega
  have cX:=(dv.aj e1).on az λO=>by have:=(I _ O).1;omega
  have kg:=(br.aj e1).on az λO=>(I _ O).2.1 rfl;have d5:=(bM.aj e1).on az λO=>(I _ O).2.2 rfl;have cg:(Value.slice A2 (ln+k+1) c2).ownBlock≠some g/\(Value.slice A2 (ln+k+1) c2).ownBlock≠some o:=by
   exact D3
  have b2:=iK bb cH cd cX kg d5 cg;clear bb az b5 cH I cd cX cg aI aj af be am aH c0 cA bN e1 cp h0 ce N cW er em es;obtain⟨be,am,aH⟩:=kg.two;obtain⟨c0,cA,bN⟩:=d5.two;clear kg d5;refine dW hK ?_;clear hK K
  iterate 2 refine pf ?_
  exact fO
 | false=>
  rw[bR] at ce;go_wp2;refine eB (λb=>Y.heap.size<=b) [(0,3),(1,3),(2,3),(3,3),(4,0),(5,3),(6,0),(7,3),(8,3),(9,3),(10,0),(11,3),(12,0),(13,3),(14,1),(15,2),(16,3),(17,3),(18,2)] ?_
  iterate 4 refine pf ?_
  refine m0 ?_;refine pf ?_;refine m0 ?_
  iterate 3 refine pf ?_
  refine m0 ?_;refine pf ?_;refine m0 ?_;refine pf ?_;refine p2 ?_;generalize hV:World.drew (World.alloc _ _)=di;have e1:=gX hV;have cp:an di Y.heap.size 113 #[.string q.1,.int .i64 4,.int .i64 (bX (f.params.take k))]:=hV▸(IL).drew;clear hV;refine au rfl (λK hK=>?_);rw[if_pos (by rfl)];refine eK iA (.tmp 79) (.tmp 89) (by rfl) (cD.aj e1) cp (jt ⟨q.1,4,bX (f.params.take k)⟩) (by rfl) (by rfl) (by rfl) ad ad (aC e1.size) ?_;intro A2 c2 eG bb az b5 cf;have cH:Ext w eG:=Fr.low (M:=λb=>w.heap.size<=b) (((ef.trans e1).mono λ_ h=>h.elim).trans (az.mono λb O=>by have:=(cD.lt O).1;omega)) λ_ h=>h;have I:∀b,(Value.slice A (ln+k) c).ownBlock=some b->W.heap.size<=b/\b≠g/\b≠o:=λb O=>⟨(cD.lt O).1,λe=>by subst e;exact bH.1 O,λe=>by subst e;exact bH.2 O⟩
  have cd:=(ec.aj e1).on az λO=>by have:=(I _ O).1;omega
  have cX:=(dv.aj e1).on az λO=>by have:=(I _ O).1;omega
  have kg:=(br.aj e1).on az λO=>(I _ O).2.1 rfl;have d5:=(bM.aj e1).on az λO=>(I _ O).2.2 rfl;have cg:(Value.slice A2 (ln+k+1) c2).ownBlock≠some g/\(Value.slice A2 (ln+k+1) c2).ownBlock≠some o:=by
   exact D3
  have b2:=iK bb cH cd cX kg d5 cg;clear bb az b5 cH I cd cX cg aI aj af be am aH c0 cA bN e1 cp h0 ce N cW er em es;obtain⟨be,am,aH⟩:=kg.two;obtain⟨c0,cA,bN⟩:=d5.two;clear kg d5;refine dW hK ?_;clear hK K
  iterate 2 refine pf ?_
  refine au rfl (λK hK=>?_);go_simp;refine dW hK ?_;clear hK K;refine aB ?_;clear be am aH;generalize hX:World.setCell _ _ _=X;have bT:=cT hX;have a3:=b2.2.2.2.2.2.1.on bT ad;have m:an X g 165 #[.slice GA gn gc,.slice MA mn mc,.slice FA fn fc,.slice A2 (ln+k+1) c2,.int .i64 0,.int .i64 0,.int .i64 0,.int .i64 0,.slice none 0 0,.slice none 0 0]:=hX▸b2.2.2.2.2.1.aI 3 _;have aV:=ai bT m;clear c0 cA bN hX bT m;obtain⟨c0,cA,bN⟩:=a3.two;have c8:=ae a3;clear a3;have L:=mf (f.params.take k);have ax:=h3 (f.params.take k);have c6:(f.params.take k).length<=2:=by rw[List.length_take];omega
  have d2:wrap64 (bX (f.params.take k)+1)=bX (f.params.take k)+1:=IntWalk.wrap64_in _ ad;go_upto_region 5 with(fail);generalize b4:World.setCell _ _ _=cQ
  try rw[d2] at b4
  have ak:=cT b4;obtain⟨bb,cH,cd,cX,_,_,cg⟩:=b2.o;obtain⟨bT,m⟩:=aV.o;have aZ:=(ay.o:W.heap.size<=g)
  have r1:Gr (λ_=>False) W.heap.size 113 3 cQ A2 (ln+(k+1)) c2 ((a6 p++dB (f.params.take (k+1)) 0 0).map bP):=by
   exact DN
  have f0:Ext w cQ:=Fr.low (M:=λb=>w.heap.size<=b) ((cH.mono λ_ h=>h.elim).trans ((bT.mono λb O=>ad).trans (ak.mono λb O=>ad))) λ_ h=>h;have gK:=(cd.on bT ad).on ak ad;have c3:=(cX.on bT ad).on ak ad;have rg:=m.on ak ad;have ro:an cQ o 118 #[.string f.name,.int .i64 (bX (f.params.take (k+1))),.int .i64 (bD (f.params.take (k+1))),.int .i64 0,.slice none 0 0]:=by
   rw[a0 bG.o,(kP _ _).1,(kP _ _).2,bR,<-b4];simpa using c8.aI 1 _
  exact DZ
 ):p:=h
theorem tN(h:p:=by
 refine(dH A (ln+k) c _ q.1 V.drew (b8.on (Fr.ext bg.drew)) ad).mono ?_;rintro e aO ⟨rfl,ar⟩;rw[aK];simp only[im];refine dW hK ?_;clear hK K
 iterate 3 refine tf ?_
 have co:=aS.aj (Fr.aJ ar);have ag:=bg.trans (Fr.aJ ar);clear aS bg ar;exact key wr.heap.size aO ⟨ag,co,Hx _⟩
 ):p:=h
theorem qZ(h:p:=by
 have ep:((a6 p).map bP).length=ln:=hl.1;have dM:ln<=100:=by rw[<-hl.1,Ib,ky];omega
 have b3:f.params.length=pn:=by rw[<-cq.1,Ib]
 have gI:pn<=2:=by have:=(hp.funcs f aA).hW;omega
 obtain⟨b9,da,eV,bV,bL,gH,dw⟩:=Aw hp aA hm bZ hl cq bB;have aL:=ai ep b3;clear h aM hm bZ hl cq bB hp aA dt lm lf ep b3;go_enter func35,ntmps35;go_upto_region 1 with(fail);generalize ba:World.alloc _ _=W;have aw:=pT ba;have bO:=lT ba;have bJ:=kZ ba;have cn:=nh ba;have cE:=aw.size;obtain⟨bf,ao,bv⟩:=eD aw bJ cn;have y:=ka ((bL.on (Fr.ext aw)).on (Fr.ext (Fr.refl _ W).drew));obtain⟨aI,aj,af⟩:=bO.two;have eA:¬W.heap.size<=w.heap.size:=by have:=cn.lt;omega
 have cF:w.heap.size+2<W.heap.size:=cn.lt;clear ba aw bO bJ cn;refine eB (λb=>W.heap.size<=b) [(0,0),(2,3),(1,1),(3,1),(4,3),(5,2),(6,3)] ?_;refine m0 ?_;refine pf ?_;refine p2 ?_;generalize hV:World.drew (World.alloc _ _)=cb;have e1:=gX hV;have cR:Gr (λ_=>False) W.heap.size 113 3 cb (some ⟨W.heap.size,0,none⟩) 0 0 []:=hV▸(Gr.lit (w:=W) (n:=0) (l:=[]) rfl (by rfl) ad (by simp only[D.aO])).aj IK.drew;have dY:=ka (bL.on (Fr.ext (bf.trans e1)));clear hV y;refine aD rfl (λK hK=>?_);rw[if_pos (by rfl)];refine iH iA (.tmp 16) (.tmp 17) (by rfl) cR (kC (a6 p)) aL.1 dY (λh=>by subst h;exact Sl.none_ bL.o) (by rfl) (by rfl) ad ad e1.size ?_;intro aY cm aT b0 f1 o1 c1;refine dA hK (f1.mono λb O=>ad) ?_;clear hK K;have e2:Ext W aT:=Fr.low (M:=λb=>W.heap.size<=b) ((e1.mono λ_ h=>h.elim).trans (f1.mono λb O=>ad)) λ_ h=>h;have du:=λb O=>(b0.lt (g:=b) O)
 have eL:W.heap.size<=aT.heap.size:=e2.size;refine pf ?_;refine au rfl (λK hK=>?_);go_simp;generalize hV:World.alloc _ _=eI;have e3:=bm hV;have c4:=aU hV;refine dW hK ?_;clear hK K;refine pf ?_;refine aB ?_;have bl:=ae (bf.trans (e2.trans e3));have b1:=ae (b0.aj e3);have c9:=ao.aj (e2.trans e3);have dF:=ae c9;have a2:=ae (bv.aj (e2.trans e3));have br:=ae c4;have bY:w.heap.size+3<=aT.heap.size:=by have:=e2.size;have:=bv.lt;omega
 have ct:∀b,(Value.slice aY ln cm).ownBlock=some b->W.heap.size<=b/\b<aT.heap.size:=λb O=>du b O;have ah:=ae ct;clear hV e1 cR dY b0 f1 o1 c1 e2 e3 c4 du eA aI aj af bf ao bv ct;obtain⟨aI,aj,af⟩:=c9.two;clear c9;generalize eC:aT.heap.size=g at *;go_upto_region 3 with(fail);generalize hV:World.alloc _ _=V;have T:=bm hV;have cV:=aU hV;have cJ:g<eI.heap.size:=br.lt;generalize eE:eI.heap.size=o at *;have aP:=ae (show Gr (λ_=>False) W.heap.size 113 3 V aY ln cm ((a6 p).map bP)/\(Value.slice aY ln cm).ownBlock≠some g/\(Value.slice aY ln cm).ownBlock≠some o/\Ext w V/\an V (w.heap.size+1) 104 #[.string f.name,.slice PA pn pc,.slice aW bn bc]/\
   an V (w.heap.size+2) 118 #[.string ⟨#[]⟩,.int .i64 0,.int .i64 0,.int .i64 0,.slice none 0 0]/\an V g 165 #[.slice GA gn gc,.slice MA mn mc,.slice FA fn fc,.slice aY ln cm,.int .i64 0,.int .i64 0,.int .i64 0,.int .i64 0,.slice none 0 0,.slice none 0 0]/\an V o 118 #[.string f.name,.int .i64 0,.int .i64 0,.int .i64 0,.slice none 0 0] from
  ⟨b1.aj T,λO=>by have:=ah.o _ O;omega,λO=>by have:=ah.o _ O;omega,bl.trans T,dF.aj T,a2.aj T,br.aj T,cV⟩)
 have el:W.heap.size<=g:=ad;clear hV T cV b1 bl dF a2 br aI aj af ah eC eE;have ay:=ae el;obtain⟨b6,bz,cx,cY,gq,cc,et,fb⟩:=aP.o;have dL:=ae (show Gr (λ_=>False) W.heap.size 113 3 V aY (ln+0) cm ((a6 p++dB (f.params.take 0) 0 0).map bP)/\(Value.slice aY (ln+0) cm).ownBlock≠some g/\(Value.slice aY (ln+0) cm).ownBlock≠some o/\Ext w V/\an V (w.heap.size+1) 104 #[.string f.name,.slice PA pn pc,.slice aW bn bc]/\an V (w.heap.size+2) 118 #[.string ⟨#[]⟩,.int .i64 0,.int .i64 0,.int .i64 0,.slice none 0 0]/\an V g 165 #[.slice GA gn gc,.slice MA mn mc,.slice FA fn fc,.slice aY (ln+0) cm,.int .i64 0,.int .i64 0,.int .i64 0,.int .i64 0,.slice none 0 0,.slice none 0 0]/\an V o 118 #[.string f.name,.int .i64 (bX (f.params.take 0)),.int .i64 (bD (f.params.take 0)),.int .i64 0,.slice none 0 0] from ⟨by simpa[dB] using b6,bz,cx,cY,gq,cc,et,by simpa[bX,bD] using fb⟩);clear b6 bz cx cY gq cc et fb;go_wp2
 go_loopw [12] (λci wr=>∃(k:Nat) (A:IP) (c:Nat),k<=pn/\ci=.int .i64 k/\Gr (λ_=>False) W.heap.size 113 3 wr A (ln+k) c ((a6 p++dB (f.params.take k) 0 0).map bP)/\(Value.slice A (ln+k) c).ownBlock≠some g/\(Value.slice A (ln+k) c).ownBlock≠some o/\Ext w wr/\an wr (w.heap.size+1) 104 #[.string f.name,.slice PA pn pc,.slice aW bn bc]/\an wr (w.heap.size+2) 118 #[.string ⟨#[]⟩,.int .i64 0,.int .i64 0,.int .i64 0,.slice none 0 0]/\an wr g 165 #[.slice GA gn gc,.slice MA mn mc,.slice FA fn fc,.slice A (ln+k) c,.int .i64 0,.int .i64 0,.int .i64 0,.int .i64 0,.slice none 0 0,.slice none 0 0]/\an wr o 118 #[.string f.name,.int .i64 (bX (f.params.take k)),.int .i64 (bD (f.params.take k)),.int .i64 0,.slice none 0 0]) (λci _=>pn - (intOf ci).toNat)
 case atStart=>exact⟨0,aY,cm,ad,rfl,dL.o⟩
 case round=>
  obtain⟨k,A,c,ap,rfl,bS,dl,dm,aw,bJ,cn,c4,cV⟩:=hrel;clear aP dL;have bx:=ae bS;have bH:=ai dl dm;obtain⟨bf,ao,bv,br,bM⟩:=Av aw bJ cn c4 cV;obtain⟨aI,aj,af⟩:=bJ.two;obtain⟨be,am,aH⟩:=c4.two;have bt:=aw.size;by_cases al:k<pn
  .obtain⟨pb,gO,q,cs,rfl,eJ,bp,bE,bd,Z⟩:=(gH.on (Fr.ext aw)).gH qh al;obtain rfl:=nr.1 bE;have h0:=Z 0 _ rfl;have ce:=Z 1 _ rfl;simp only[Ij] at h0;have N:pb<wr.heap.size:=eJ;have bG:=ae bp;have aK:de (a6 p++dB (f.params.take k) 0 0) q.1=none:=by
    refine ju λj x a1 hx=>?_;have bI:=(b9.funcs f da.o).fresh;have cl:x.name∈(a6 p++dB (f.params.take k) 0 0).map (·.name):=Iz.2 ⟨x,Ia a1,rfl⟩;rw[Ig,fC,fw] at cl;have dE:f.params=f.params.take k++q::f.params.drop (k+1):=by
     have:=List.take_append_drop k f.params;rw[<-this];congr 1
     .rw[this]
     .rw[this,List.drop_eq_getElem?_toList_append,bp];rfl
    rw[dE,Ig,Ie,<-List.append_assoc,List.nodup_append] at bI;exact bI.2.2 _ cl q.1 (by simp) hx
   have y:=bx.sl (Q:=av wr) (λb _ h=>h.elim) (λb h _=>h);have b8:=ae y;clear bE bd Z eJ bp bS dl dm aw bJ cn c4 cV y;go_upto_region 6 with(fail);refine sU (λ_=>False) [10,15] (.free 0 (.free 1 (.free 2 (.held 3 (.free 4 (.held 5 (.free 6 (.free 7 (.free 8 (.held 9 (.pick [10,14] (λi=>bif i == 10 then .free 11 (.free 12 (.free 13 (.pick [14] (λ_=>.pick [15] (λ_=>.free 16 (.stop)))))) else .pick [10] (λ_=>.free 11 (.free 12 (.free 13 (.pick [15] (λ_=>.free 16 (.stop)))))))))))))))))) ?_
   iterate 3 refine tf ?_
   refine th ?_;refine tf ?_;refine th ?_
   iterate 3 refine tf ?_
   refine th ?_;refine kU (P:=?GZ) (ops:=?G4) (Q:=?G5) (R:=?G6) (tails:=?G7) (rest:=.pick [15] (λ_=>.free 16 (.stop))) (aa:=?G0) (C:=λc5 V=>Ext wr V/\an V c5 113 #[.string ⟨#[]⟩,.int .i64 0,.int .i64 0]/\wr.heap.size<=c5) (λkey=>?F2) ?FY
   case F2=>
    refine a5 ?_ ?_
    ·
     refine bA rfl (λK hK=>?_) rfl;go_simp;refine(dH A (ln+k) c _ q.1 wr.drew (b8.on (Fr.ext IK.drew)) ad).mono ?_;rintro e aO ⟨rfl,ar⟩;rw[aK];simp only[im];refine dW hK ?_;clear hK K
     iterate 3 refine tf ?_
     refine aq ?_;refine dS ?_;generalize hV:World.alloc _ _=V;have aS:=aU hV;have bg:Ext wr V:=hV▸(Fr.aJ ar).alloc _;exact AA
    ·
     exact tM
   case FY=>
    rintro c5 V ⟨bg,bK,aZ⟩;obtain⟨c0,cA,bN⟩:=bK.two;exact gY
  .obtain rfl:pn=k:=ad;rw[Ih (by rw[aL.2];exact Hx _)] at bS cV;have cj:=bM.o;rw[Ih (by rw[aL.2];exact Hx _)] at cj;clear bx bM cV;obtain⟨bx,bM⟩:=aN bS cj;obtain⟨c0,cA,bN⟩:=cj.two;clear bS dl dm aw bJ cn c4 cj;go_upto_region 15 with(fail);generalize hX:World.setCell _ _ _=X;have bT:=cT hX;have m:an X g 165 #[.slice GA gn gc,.slice MA mn mc,.slice FA fn fc,.slice A (ln+pn) c,.int .i64 (bX f.params),.int .i64 0,.int .i64 0,.int .i64 0,.slice none 0 0,.slice none 0 0]:=hX▸br.aI 4 _;have dP:w.heap.size<=g:=by have:=(ay.o:W.heap.size<=g);omega
   have bW:Ext w X:=Fr.low (M:=λb=>w.heap.size<=b) ((bf.mono λ_ h=>h.elim).trans (bT.mono λb O=>ad)) λ_ h=>h;have bs:=bx.cU (ab:=X) bT.size λb al hp=>bT.block b al λhe=>by
    subst he;rcases hp with hp|hp
    .exact hp.elim
    .exact bH.1 hp
   have aX:∀b,av w b->off (Ms g (.slice none 0 0) (.slice none 0 0)) X b:=λb O=>⟨Hy O bW.size,λhm=>by
    rcases hm with hm|hm|hm
    .have:b<w.heap.size:=O;omega
    .cases hm
    .cases hm⟩
   have dQ:=(eV.al (ab:=X) λb O=>bW.block b O λh=>h).mono aX;have bh:=(bV.al (ab:=X) λb O=>bW.block b O λh=>h).mono aX;have dR:=(dw.al (ab:=X) λb O=>bW.block b O λh=>h).mono aX;have dZ:Sl X (off (Ms g (.slice none 0 0) (.slice none 0 0)) X) A (ln+pn) ((a6 p++dB f.params 0 0).map bP):=by
    obtain⟨d0,xs,ac,J⟩:=bs;exact Sl.sH ac (sn J) d0 λb bj _ al=>⟨al,λhm=>by
     rcases hm with hm|hm|hm
     .subst hm;exact bH.1 (by rw[bj];rfl)
     .cases hm
     .cases hm⟩
   have eh:cw X g (o+1) p.af p.funcs (a6 p++dB f.params 0 0) A (ln+pn) c (bX f.params) 0 [] [] none 0 none 0:=
    ⟨⟨GA,gn,gc,MA,mn,mc,FA,fn,fc,m,ad,ad,dQ,bh⟩,⟨ad,by have:=bT.size;have:=bN;omega⟩,⟨ad,dZ⟩,kV.nil _ _ _ _ _ _⟩
   have db:=ao.on bT (by have:=(ay.o:W.heap.size<=g);omega);obtain⟨ev,eb,bq,eF⟩:=ih eh dR bW db;have ea:=ae (bv.on bT (by have:=(ay.o:W.heap.size<=g);omega));have ee:=ae (bM.on bT ad);clear aI aj af be am aH c0 cA bN hX bT m bW bs aX dQ bh dR dZ eh;obtain⟨aI,aj,af⟩:=db.two;clear db;have eY:=mf f.params;have eZ:=h3 f.params;have a7:=ae (show ∀b,Ms g (.slice none 0 0) (.slice none 0 0) b->w.heap.size<=b from λb hm=>by
    rcases hm with hm|hm|hm
    .omega
    .cases hm
    .cases hm)
   have dj:Sc (bk (hZ p)) (ik p f) (a6 p++dB f.params 0 0) (fo p++ck f.params) (a4 p++f.params.map (·.1)) (bX f.params) (bD f.params):=sY b9.o da.o;have eu:(bk (hZ p)).af=p.af:=by rw[nG]
   have ek:f.body.num<=64:=Ir (iF (λf:aE=>f.body.num) da.o) b9.hW;have dn:=dD f.body 4 _ _ _ (bX f.params) [] (b9.funcs f da.o).body dj;have b7:(a6 p++dB f.params 0 0).length<=200:=by
    have ac:=aL.1;rw[Ib] at ac;have J:=congrArg List.length (fw f.params 0 0);rw[Ib,Ib] at J;have aR:=aL.2;rw[Hz,ac,J];omega
   obtain⟨aQ,dK,eg,d1⟩:=ih dj dn eu b7;clear dj dn eu b7;go_wp2_with(fail);have b3:=aL.2;have b7:=d1.o;refine(dg (bk (hZ p)) (bD f.params) p.funcs f.body (ik p f) 4 _ _ _ (bX f.params) 0 [] [] g (o+1) A (ln+pn) c none 0 none 0 aW bn bc X (b9.funcs f da.o).body aQ.o (A4 b9.o da.o) (λh aG=>by have:=(b9.funcs h aG).hW;omega) (by rw[eg.o];exact ev.o) eb.o (by simp;omega) rfl ad ad ad).mono ?_;rintro e cG ⟨rfl,cB,cN,cS,cU,aJ,bz,bu,dz⟩;have dn:=dK.o;rw[eg.o] at bu;clear b3 b7 dK;generalize bp:dq f.body (a6 p++dB f.params 0 0) (bX f.params) []=r at *;obtain⟨r1,fZ⟩:=r;obtain⟨⟨gL,c7,ei,_⟩,a9,df⟩:=dn;simp only[IC,It] at bz bu dz c7 a9 df;have cC:r1.length<=128:=by rw[c7];omega
   have dp:∀b,b≠g->¬Ms g (.slice none 0 0) (.slice none 0 0) b:=λb O hm=>by
    rcases hm with hm|hm|hm
    .exact O hm
    .cases hm
    .cases hm
   obtain⟨dr,d3⟩:=ea.cz (dp _ (by have:=(ay.o:W.heap.size<=g);omega)) dz;obtain⟨cZ,d4⟩:=ee.cz (dp _ ad) dz;obtain⟨cP,eQ⟩:=aN bu dz;obtain⟨fa,eX,eU,fe,e6,e4,e8,eS,eP,f2,_⟩:=bu.blk;have cI:=bF dr d3 cZ d4;have bG:=bF bp bz a9 df;clear aI aj af bu dz dr cZ c7 ei d3 d4 bp bz;obtain⟨be,am,aH⟩:=f2.two;clear f2;clear a9 df dp;go_wp2_with(fail);refine(gF cP.o mR (f.body.num:Int) (iR (is:=[]) (ps:=[]) (Sl.bH _) (Sl.bH _) (Hx _) (Hx _)) ad (aC bG.2.1)).mono ?_;rintro e cz ⟨rfl,dI,ds,dO,dU,dc,dd⟩;have dV:=ae dc;have cy:Mv g (.slice cB r1.length cN) (.slice cS aJ.length cU) cG (.slice dI (r1++[mR]).length ds) (.slice dO (aJ++[(f.body.num:Int)]).length dU) cz:=by rw[Hz,Hz];exact dd
   have eq:=ae (eQ.trans cy);obtain⟨dr,d3⟩:=cI.1.cz cI.2.1 cy;obtain⟨cZ,d4⟩:=cI.2.2.1.cz cI.2.2.2 cy;obtain⟨ex,ey⟩:=aN dr cZ;obtain⟨e9,eW,eT,fd,e5,e0,e7,eR,eO,cK,_⟩:=dc.blk;have ed:=ae cK;clear dc dd cy be am aH;obtain⟨be,am,aH⟩:=cK.two;obtain⟨c0,cA,bN⟩:=cZ.two;have en:¬g=o:=ad;clear cK cZ dr;go_wp2;refine eB (λb=>b=o) [(0,3),(1,3),(2,3),(3,0),(4,3),(5,3),(6,3),(7,0),(8,3),(9,1),(10,3),(11,2)] ?_
   iterate 3 refine pf ?_
   refine m0 ?_
   iterate 3 refine pf ?_
   refine m0 ?_;refine pf ?_;refine aD rfl (λK hK=>?_);go_simp;refine dA hK (A7 cz o 3 _) ?_;clear hK K;refine pf ?_;refine au rfl (λK hK=>?_);go_simp;refine dW hK ?_;clear hK K;refine aB ?_;generalize hX:World.setCell _ _ _=gE;have z:=CD hX;have dh:an gE o 118 #[.string f.name,.int .i64 (bX f.params),.int .i64 (bD f.params),.int .i64 fZ,.slice dI (r1.length+1) ds]:=hX▸(ey.aI 3 _).aI 4 _;have dT:=ed.on z en;have dN:=ex.on z (by have:=(ay.o:W.heap.size<=g);omega);obtain⟨dx,eH,dJ⟩:=eD z dh dN;clear hX z be am aH c0 cA bN dN;obtain⟨be,am,aH⟩:=dT.two;obtain⟨c0,cA,bN⟩:=dh.two;have d7:¬g=w.heap.size+2:=by have:=(ay.o:W.heap.size<=g);omega
   have d8:¬o=w.heap.size+2:=by have:=(ay.o:W.heap.size<=g);omega
   clear dT dh;obtain⟨d6,dy,dC⟩:=dJ.two;go_wp2;refine eB (λb=>b=w.heap.size+2) [(0,0),(1,3),(2,3),(3,3),(4,0),(5,3),(6,3),(7,3),(8,0),(9,3),(10,3),(11,3),(12,0),(13,1),(14,3),(15,3),(16,3)] ?_;refine C8 ?_
   iterate 3 refine pf ?_
   refine C8 ?_
   iterate 3 refine pf ?_
   refine C8 ?_
   iterate 3 refine pf ?_
   refine C8 ?_;refine aD rfl (λK hK=>?_);go_simp;generalize hX:World.setCell _ _ _=d9;obtain⟨cK,_,bU⟩:=cO (w:=w) [.string f.name,.int .i64 (bX f.params),.int .i64 (bD f.params),.int .i64 fZ,.slice dI (r1.length+1) ds] (by rfl) dJ.o (Fr.low (M:=λb=>w.heap.size<=b) ((bq.mono λ_ h=>h.elim).trans ((eq.fr.mono λb hm=>a7.o b hm).trans (dx.mono λb O=>by have:=(ay.o:W.heap.size<=g);omega))) λ_ h=>h) (Nat.le_add_right _ _) hX;refine dA hK (ss (ss bU)) ?_;clear hK K
   iterate 3 refine pf ?_
   refine aB ?_;obtain⟨bQ,eM,eN⟩:=cK.two;have ew:=ai bU cK;clear be am aH c0 cA bN d6 dy dC hX bU cK;go_wp2;refine IJ (v:=.tuple #[.agg #[.string f.name,.int .i64 (bX f.params),.int .i64 (bD f.params),.int .i64 fZ,.slice dI (r1.length+1) ds],.slice dO (aJ.length+1) dU,.int .i64 0,.int .i64 0]) (by simp[results,Tryz.results35,go_sem,bQ]) rfl ?_;obtain⟨bU,cK⟩:=ew.o;have aZ:=(ay.o:W.heap.size<=g)
   have eo:dX p f=⟨f.name,bX f.params,bD f.params,fZ,r1++[mR]⟩:=by
    unfold dX;simp only[bG.1]
   have bw:Ext w d9:=Fr.low (M:=λb=>w.heap.size<=b) ((bq.mono λ_ h=>h.elim).trans ((eq.fr.mono λb hm=>a7.o b hm).trans ((dx.mono λb O=>ad).trans (bU.mono λb O=>ad)))) λ_ h=>h;have cv:=dV.rows.one;have bi:=cv.cap.1;have ez:Gr _ _ _ _ d9.drew.drew _ _ _ _:=(((cv.cU (ab:=gE) dx.size λb al hp=>dx.block b al λhe=>by
    rcases hp with hp|hp
    .have:=hp.1;omega
    .have:=(cv.lt hp).1;omega).cU (ab:=d9) bU.size λb al hp=>bU.block b al λhe=>by
    rcases hp with hp|hp
    .have:=hp.1;omega
    .have:=(cv.lt hp).1;omega).aj (Fr.refl _ d9).drew).aj (Fr.refl _ d9.drew).drew
   have ej:=ez.sl (Q:=fresh w d9.drew.drew) (λb ac J=>⟨by have:=J.1;omega,ac⟩) (λb ac J=>⟨ad,ac⟩);rw[Hz] at ej bi;refine⟨dI,r1.length+1,ds,dO,aJ.length+1,dU,by rw[eo],?_,bw.drew.drew⟩;rw[eo];exact w4.2 ⟨dI,r1.length+1,ds,rfl,bi,ej⟩
 ):p:=h
end zN
open zN in
theorem rh(dg:∀U nk F b,k8 U nk F b)(p:bC)(hp:pH p)(f:aE)(aA:f∈p.funcs)(GA:IP)(gn gc:Nat)(MA:IP)(mn mc:Nat)(FA:IP)(fn fc:Nat)(bo:IP)(ln lc:Nat)(PA:IP)(pn pc:Nat)(aW:IP)(bn bc:Nat)(w:World)
  (h:hG w (av w) p GA gn MA mn FA fn) (hl:Sl w (av w) bo ln ((a6 p).map bP)) (cq:Sl w (av w) PA pn (f.params.map ch)) (bB:Sl w (av w) aW bn (cL f.body)) :
  Calls prog 35 #[.agg #[.slice GA gn gc,.slice MA mn mc,.slice FA fn fc],.slice bo ln lc,.agg #[.string f.name,.slice PA pn pc,.slice aW bn bc]] w (Fy w (dX p f)):=by
 have aM:=h.g;have hm:=h.m;have bZ:=h.f;have dt:p.globals.length=gn:=by rw[<-aM.1,Ib]
 have lm:p.af.length=mn:=by rw[<-hm.1,Ib]
 have lf:p.funcs.length=fn:=by rw[<-bZ.1,Ib]
 exact qY
 deriving instance DecidableEq for ao
 deriving instance DecidableEq for ah
abbrev Kn:=ah×List Int
def qF(out:List Kn)(s:ah):Bool:=out.any λk=>decide (k.1=s)
def xP(u:ax)(most:Nat)(s:ah)(p:List Int):List Int->List Kn->List Kn×Bool
 | [],out=>(out,true)
 | t::a,out=>
  if (bs u s t).2=false\/qF out (bs u s t).1=true then xP u most s p a out
  else if out.length=most then (out,false)
  else xP u most s p a (out++[((bs u s t).1,p++[t])])
def Be(u:ax)(most:Nat):Nat->Nat->List Kn->List Kn×Bool
 | _,0,out=>(out,true)
 | i,m+1,out=>match out[i]? with
  | none=>(out,true)
  | some k=>if (xP u most k.1 k.2 (m1 k.1) out).2 then Be u most (i+1) m (xP u most k.1 k.2 (m1 k.1) out).1 else xP u most k.1 k.2 (m1 k.1) out
def Fo(u:ax)(most:Nat):Nat->Nat->List Kn->List Kn×Bool
 | 0,_,out=>(out,true)
 | r+1,i,out=>if (Be u most i (out.length - i) out).2 then Fo u most r out.length (Be u most i (out.length - i) out).1 else Be u most i (out.length - i) out
def o8(most:Int):Nat:=(max 1 (min most 500)).toNat
variable{out:List Kn}
def oQ(u:ax)(steps most:Int):List Kn×Bool:=Fo u (o8 most) (min (max steps 0) 200).toNat 0 [(dO u,[])]
theorem qG:qF out s=true↔s∈out.map (·.1):=by
 unfold qF;rw[List.any_eq_true];constructor
 .rintro⟨k,ap,h⟩;have:k.1=s:=by simpa using h
  exact Iz.2 ⟨k,ap,this⟩
 .intro h;obtain⟨k,ap,rfl⟩:=Iz.1 h;exact⟨k,ap,by simp⟩
structure lR(u:ax)(most R:Nat)(out:List Kn):Prop where
 diff:(out.map (·.1)).Nodup
 hW:1<=out.length/\out.length<=most
 run:∀k∈out,fL u (dO u) k.2=k.1/\dC u (dO u) k.2=k.2/\k.2.length<=R
 sorted:(out.map λk=>k.2.length).Pairwise (·<=·)
theorem lR.mono{u:ax}{most a:Nat}(h:lR u most R out)(cy:R<=a):lR u most a out:=
 ⟨h.diff,h.hW,λk ap=>⟨(h.run k ap).1,(h.run k ap).2.1,by have:=(h.run k ap).2.2;omega⟩,h.sorted⟩
section
variable {u:ax} {most:Nat}
theorem lR.add(h:lR u most (R+1) out){p:List Int}(aY:fL u (dO u) p=s/\dC u (dO u) p=p/\p.length=R)(hs:(bs u s t).2=true)(hn:qF out (bs u s t).1=false)(hm:out.length≠most):
  lR u most (R+1) (out++[((bs u s t).1,p++[t])]):=by
 obtain⟨ac,J,aR⟩:=aY;refine⟨?_,?_,λk ap=>?_,?_⟩
 .rw[Ig,List.nodup_append];refine⟨h.diff,by simp,λa I b O=>?_⟩;have:b=(bs u s t).1:=by simpa using O
  subst this;rintro rfl;rw[qG.2 I] at hn;cases hn
 .have:=h.hW;simp;omega
 .rcases Ii.1 ap with ap|ap
  .exact h.run k ap
  .have:k=((bs u s t).1,p++[t]):=by simpa using ap
   subst this;refine⟨?_,?_,by simp[aR]⟩
   .show fL u (dO u) (p++[t])=_
    rw[je,ac];rfl
   .show dC u (dO u) (p++[t])=p++[t]
    rw[kp,J,ac,dC,hs];rfl
 .rw[Ig,List.pairwise_append];refine⟨h.sorted,by simp,λa I b O=>?_⟩;obtain⟨k,ap,rfl⟩:=Iz.1 I;have:b=p.length+1:=by simpa using O
  subst this;have:=(h.run k ap).2.2;omega
theorem ug{R:Nat}{s:ah}{p:List Int}(aY:fL u (dO u) p=s/\dC u (dO u) p=p/\p.length=R):∀(a:List Int) (out:List Kn),lR u most (R+1) out->
  lR u most (R+1) (xP u most s p a out).1/\(∃m,(xP u most s p a out).1=out++m/\∀k∈m,k.2.length=R+1)/\
   ((xP u most s p a out).2=true->∀t∈a,(bs u s t).2=true->(bs u s t).1∈(xP u most s p a out).1.map (·.1))
 | [],out,h=>⟨h,⟨[],by simp[xP],by simp⟩,λ_ t ht=>by simp at ht⟩
 | t::a,out,h=>by
  rw[xP];split
  .rename_i hc;obtain⟨ac,⟨m,hm,az⟩,aR⟩:=ug aY a out h;refine⟨ac,⟨m,hm,az⟩,λO x hx hs=>?_⟩;rcases Iq.1 hx with rfl|hx
   .rcases hc with hc|hc
    .rw[hc] at hs;cases hs
    .rw[hm,Ig];exact Ii.2 (.inl (qG.1 hc))
   .exact aR O x hx hs
  .rename_i hc;split
   .exact⟨h,⟨[],by simp,by simp⟩,λO=>by cases O⟩
   .rename_i aZ;have b6:(bs u s t).2=true:=by
     cases F:(bs u s t).2 with
     | true=>rfl
     | false=>exact absurd (.inl F) hc
    have cM:qF out (bs u s t).1=false:=by
     cases F:qF out (bs u s t).1 with
     | true=>exact absurd (.inr F) hc
     | false=>rfl
    obtain⟨ac,⟨m,hm,az⟩,aR⟩:=ug aY a _ (h.add aY b6 cM aZ);refine⟨ac,⟨((bs u s t).1,p++[t])::m,by rw[hm];simp,λk ap=>?_⟩,λO x hx hs=>?_⟩
    .rcases Iq.1 ap with rfl|ap
     .simp[aY.2.2]
     .exact az k ap
    .rcases Iq.1 hx with rfl|hx
     .rw[hm];simp
     .exact aR O x hx hs
def jm(u:ax)(i:Nat)(out:List Kn):Prop:=∀j k,j<i->out[j]?=some k->∀t,(bs u k.1 t).2=true->(bs u k.1 t).1∈out.map (·.1)
theorem jm.app{m:List Kn}(h:jm u i out)(ak:i<=out.length):jm u i (out++m):=λj k a1 ap t ht=>by
 rw[List.getElem?_append_left ad] at ap;rw[Ig];exact Ii.2 (.inl (h j k a1 ap t ht))
theorem Ds(h:(bs u s t).2=true):t∈m1 s:=by
 have bp:dt s t≠none:=λhn=>by
  unfold bs at h;rw[hn] at h;cases h
 have h0:0<=t:=by
  rcases Int.lt_or_le t 0 with hn|hn
  .exact absurd (Ce hn) bp
  .exact hn
 have ac:t<s.threads.length:=by
  rcases Int.lt_or_le t s.threads.length with hn|hn
  .exact hn
  .exact absurd (Cf hn) bp
 exact Iz.2 ⟨t.toNat,List.mem_range.2 ad,by show ((t.toNat:Nat):Int)=t;omega⟩
theorem Bf{R:Nat}:∀(m i:Nat) (out:List Kn),lR u most (R+1) out->(∀j k,i<=j->j<i+m->out[j]?=some k->k.2.length=R)->i+m<=out.length->jm u i out->
  lR u most (R+1) (Be u most i m out).1/\(∃l,(Be u most i m out).1=out++l/\∀k∈l,k.2.length=R+1)/\((Be u most i m out).2=true->jm u (i+m) (Be u most i m out).1)
 | 0,i,out,h,_,_,hc=>⟨h,⟨[],by simp[Be],by simp⟩,λ_=>hc⟩
 | m+1,i,out,h,hlen,hm,hc=>by
  have ap:out[i]?=some (out[i]'ad):=List.getElem?_eq_getElem _;rw[Be,ap];simp only[];generalize a:out[i]'ad=k at *;have L:=h.run k (Ia ap);obtain⟨ac,⟨l,hl,bS⟩,aR⟩:=ug (most:=most) (R:=R) ⟨L.1,L.2.1,hlen i k (Hx _) ad ap⟩ (m1 k.1) out h;split
  .rename_i O;have v:=aR O;generalize xP u most k.1 k.2 (m1 k.1) out=q at *;have aZ:jm u (i+1) q.1:=λj x a1 hx t ht=>by
    by_cases G:j=i
    .subst G;have:x=k:=by
      rw[hl,List.getElem?_append_left ad,ap] at hx;exact(Option.some.inj hx).symm
     subst this;exact v t (Ds ht) ht
    .rw[hl] at hx ⊢;exact(hc.app (m:=l) ad) j x ad hx t ht
   obtain⟨b0,⟨dc,bb,f1⟩,cQ⟩:=Bf m (i+1) q.1 ac (λj x f0 E hx=>by
    rw[hl,List.getElem?_append_left ad] at hx;exact hlen j x ad ad hx) (by rw[hl,Hz];omega) aZ
   refine⟨b0,⟨l++dc,by rw[bb,hl,Io],λx hx=>?_⟩,λbw=>by rw[show i+(m+1)=i+1+m by omega];exact cQ bw⟩;rcases Ii.1 hx with hx|hx
   .exact bS x hx
   .exact f1 x hx
  .rename_i O;exact⟨ac,⟨l,hl,bS⟩,λbw=>absurd bw O⟩
def qR(u:ax)(R:Nat)(out:List Kn):Prop:=∀q:List Int,q.length<=R->dC u (dO u) q=q->∃k∈out,k.1=fL u (dO u) q/\k.2.length<=q.length
theorem xJ(h:dC u s q=q):∀n,dC u s (q.take n)=q.take n:=by
 have key:∀(q:List Int) (s:ah),dC u s q=q->∀n,dC u s (q.take n)=q.take n:=by
  intro q
  induction q with
  | nil=>intro s _ n;simp[dC]
  | cons t q aa=>
   intro s h n;rw[dC] at h
   cases hs:(bs u s t).2 with
   | true=>
    rw[hs,if_pos rfl] at h;simp only[List.singleton_append,List.cons.injEq,true_and] at h
    cases n with
    | zero=>simp[dC]
    | succ n=>
     rw[List.take_succ_cons,dC,hs,if_pos rfl,aa _ h n]
     rfl
   | false=>
    exfalso;rw[hs,if_neg (by simp),IC] at h;have:=congrArg List.length h;have J:=Ck (u:=u) q (bs u s t).1;simp at this;omega
 exact key q s h
theorem xI(h:dC u s (q++[t])=q++[t]):dC u s q=q/\(bs u (fL u s q) t).2=true:=by
 have ac:=xJ h q.length;rw[List.take_left'  rfl] at ac;refine⟨ac,?_⟩;rw[kp,ac] at h;have J:=List.append_cancel_left h;rw[dC] at J
 cases hs:(bs u (fL u s q) t).2 with
 | true=>rfl
 | false=>rw[hs] at J;simp[dC] at J
theorem Bg:∀(r R i:Nat) (out:List Kn),lR u most R out->i<=out.length->(∀j k,i<=j->out[j]?=some k->k.2.length=R)->jm u i out->qR u R out->
  lR u most (R+r) (Fo u most r i out).1/\((Fo u most r i out).2=true->qR u (R+r) (Fo u most r i out).1)
 | 0,R,i,out,h,_,_,_,aY=>⟨h,λ_=>aY⟩
 | r+1,R,i,out,h,ak,hlen,hc,aY=>by
  rw[Fo];obtain⟨ac,⟨l,hl,bS⟩,aR⟩:=Bf (most:=most) (R:=R) (out.length - i) i out (h.mono ad) (λj k a1 _ ap=>hlen j k a1 ap) ad hc;split
  .rename_i O;have v:=aR O;rw[show i+(out.length - i)=out.length by omega] at v;generalize Be u most i (out.length - i) out=q at *;have a:qR u (R+1) q.1:=λp hp hu=>by
    by_cases b:p.length<=R
    .obtain⟨k,ap,bv,ct⟩:=aY p b hu;exact⟨k,by rw[hl];exact Ii.2 (.inl ap),bv,ct⟩
    .have aZ:p≠[]:=by rintro rfl;simp at b
     obtain⟨c3,t,rfl⟩:∃c3 t,p=c3++[t]:=⟨p.dropLast,p.getLast aZ,(List.dropLast_concat_getLast aZ).symm⟩
     obtain⟨c,ao⟩:=xI hu;have b3:c3.length=R:=by simp at hp b;omega
     obtain⟨k,ap,bv,ct⟩:=aY c3 ad c;obtain⟨j,a1⟩:=List.getElem?_of_mem ap;have bf:=(List.getElem?_eq_some_iff.1 a1).1;have b1:(bs u k.1 t).2=true:=by rw[bv];exact ao
     have:=v j k bf (by rw[hl,List.getElem?_append_left bf];exact a1) t b1;obtain⟨bZ,bM,he⟩:=Iz.1 this;refine⟨bZ,bM,?_,?_⟩
     .rw[he,je,<-bv];rfl
     .have:=(ac.run bZ bM).2.2;simp;omega
   have:=Bg r (R+1) out.length q.1 ac (by rw[hl];simp) (λj k a1 ap=>by
    rw[hl,List.getElem?_append_right a1] at ap;exact bS k (Ia ap)) v a
   rw[show R+(r+1)=R+1+r by omega];exact this
  .rename_i O;exact⟨ac.mono ad,λh=>absurd h O⟩
theorem explore_ok(u:ax)(steps most:Int):lR u (o8 most) (min (max steps 0) 200).toNat (oQ u steps most).1/\((oQ u steps most).2=true->qR u (min (max steps 0) 200).toNat (oQ u steps most).1):=by
 have h0:lR u (o8 most) 0 [(dO u,[])]:=by
  refine⟨by simp,⟨by simp,by unfold o8;simp;omega⟩,λk ap=>?_,by simp⟩;have:k=(dO u,[]):=by simpa using ap
  subst this;exact⟨rfl,rfl,Hx _⟩
 have:=Bg (u:=u) (most:=o8 most) (min (max steps 0) 200).toNat 0 0 [(dO u,[])] h0 (by simp) (λj k _ ap=>by
  cases j with
  | zero=>simp at ap;subst ap;rfl
  | succ j=>simp at ap) (λj k a1=>ad) (λq bp _=>by
  have:q=[]:=List.eq_nil_of_length_eq_zero ad;subst this;exact⟨(dO u,[]),List.mem_cons_self,rfl,Hx _⟩)
 rw[It] at this;exact this
end
end Go.Proofs.YtajlmkkidmjgoaaGreatDoor
