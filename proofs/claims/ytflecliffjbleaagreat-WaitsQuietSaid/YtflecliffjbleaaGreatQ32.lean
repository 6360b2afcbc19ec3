/- Part 32 of the proof. No condition of its own. -/
import Derived.Test.YtflecliffjbleaaGreatQ23
import Derived.Test.YtflecliffjbleaaGreatQ26
namespace Go.Proofs.YtflecliffjbleaaGreat
open Go.RowKit Go.Proofs.Tryz
set_option maxRecDepth 1000000
set_option maxHeartbeats 25600000
set_option linter.unusedVariables false
variable{l:List D}{g n s:Nat}{M:Nat->Prop}{A:LP}{t:TypeId}{ac w:World}
def qG(x:Int):Int:=if Int.tmod x 16=7 then x else within x 4
def bU(l:List Int)(m:Nat):List Int:=(l.take m).map qG
theorem y4(A:LP)(n c m:Nat)(l:List Int)(w:World)(h:cK (EF b5) 1 w w.heap.size A n l)(hm:m<=1000) :
  Calls prog 28 #[.slice A n c,.int .i64 m] w λr ac=>∃I aA,r=.returned (.slice I (bU l m).length aA)/\(bU l m).length<=aA/\cK (EF b5) 1 ac ac.heap.size I (bU l m).length (bU l m)/\Below w.heap.size w ac/\∀g,(Value.slice I (bU l m).length aA).ownBlock=some g->w.heap.size<=g:=by
 have hl:=h.1;have bN:=ad hl;clear hl;go_enter func28,ntmps28;go_wp2;go_loopw [5,6] (λv i wr=>∃k:Nat,k<=n/\k<=m/\i=.int .i64 k/\wr.ownsRow w.heap.size 3 1 v k (((l.take k).map qG).flatMap b5)/\Below w.heap.size w wr) (λ_ i _=>n - (intOf i).toNat)
 case atStart=>exact⟨0,Lx _,Lx _,rfl,World.ownsRow_nil _ _ _ _,Below.refl _ _⟩
 case round=>
  obtain⟨k,ai,s,rfl,ax,O⟩:=hrel;by_cases aw:k<n/\k<m
  .obtain⟨aW,co⟩:=aw;obtain⟨b,o,x,rfl,al,hx,c0⟩:=(h.gf O).int aW;have b4:=O.size;have bB:=ad (show ((l.take (k+1)).map qG).flatMap b5=((l.take k).map qG).flatMap b5++[.int .i64 (qG x)] by rw[a1 hx,Li,List.map_singleton,ey]);clear hx;have e:qG x=if Int.tmod x 16=7 then x else within x 4:=rfl
   have j:=ad e;clear e;by_cases C:Int.tmod x 16=7
   .have q:=ad C;have f:(Int.tmod x 16 == 7)=true:=by simpa using C
    clear C;go_wp2_with(at_builtin;refine bV _ de (by rfl) (.tmp 24) (.tmp 29) (by rfl) w.heap.size _ _ _ _ (by rfl) ax (by rfl) (by rfl) (g5 _ _) ab ab b4 ?_;intro v1 aP ay aO cd);go_roundw
    case rel=>exact⟨k+1,ab,ab,by go_num,by rw[bB.o,j.o,if_pos q.o];exact ay,dk O ax aO (Lb _) b4⟩
    case measure=>exact az
   .have q:=ad C;have f:(Int.tmod x 16 == 7)=false:=by simpa using C
    clear C;go_wp2_with(fail);refine(mB x 4 ab ab _).mono ?_;rintro r ac ⟨rfl,rfl⟩;go_wp2_with(at_builtin;refine bV _ de (by rfl) (.tmp 31) (.tmp 37) (by rfl) w.heap.size _ _ _ _ (by rfl) ax (by rfl) (by rfl) (g5 _ _) ab ab b4 ?_;intro v1 aP ay aO cd);go_roundw
    case rel=>exact⟨k+1,ab,ab,by go_num,by rw[bB.o,j.o,if_neg q.o];exact ay,dk O ax aO (Lb _) b4⟩
    case measure=>exact az
  .obtain⟨cy,c1,rfl,b9,_,_,_⟩:=bx ax;have hlen:(bU l m).length=k:=by
    have:=bN.o;unfold bU;rw[Lf,List.length_take];omega
   have he:(l.take k).map qG=bU l m:=by
    have:=bN.o;unfold bU;congr 1
    rcases Nat.lt_or_ge k m with ae|ae
    .rw[Lj ab,Lj ab]
    .rw[show k=m by omega]
   obtain⟨F,a8⟩:=aM hlen he;clear hlen he;have fin:∃I aA,Ending.returned (.slice cy k c1)=.returned (.slice I (bU l m).length aA)/\(bU l m).length<=aA/\cK (EF b5) 1 wr wr.heap.size I (bU l m).length (bU l m)/\Below w.heap.size w wr/\∀g,(Value.slice I (bU l m).length aA).ownBlock=some g->w.heap.size<=g:=by
    rw[F.o,<-a8.o];exact⟨cy,c1,rfl,b9,g6 ax (iA _) (by rw[a8.o];exact F.o),O,λg aK=>(ax.lt g aK).1⟩
   have d:=ad fin;clear fin;by_cases aW:k<n
   .have t:¬k<m:=λaH=>aw ⟨aW,aH⟩;clear aw;go_wp2;go_ret;exact d.o
   .clear aw;go_wp2;go_ret;exact d.o
theorem picks_any(A:LP)(n c m:Nat)(l:List Int)(w:World)(h:cK (EF b5) 1 w w.heap.size A n l)(hm:m<=1000) :
  Calls prog 28 #[.slice A n c,.int .i64 m] w λr ac=>∃I aA,r=.returned (.slice I (bU l m).length aA)/\(bU l m).length<=aA/\cK (EF b5) 1 ac ac.heap.size I (bU l m).length (bU l m)/\Below w.heap.size w ac:=
 (y4 A n c m l w h hm).mono λ_ _ ⟨I,aA,ae,aD,aU,a1,_⟩=>⟨I,aA,ae,aD,aU,a1⟩
theorem thread_any(q:SV)(s:ag)(x:Int)(w:World)(h:q.Ok w s)(ae:1<=q.hn)(aD:q.hn<=1000000) :
  Calls prog 23 #[.agg (q.val s),.int .i64 x] w λe ac=>e=.returned (.int .i64 (within x q.hn))/\Ext w ac:=by
 obtain⟨bM,b2,bo,TA,tn,tc,HA,hn,hc⟩:=q;clear h;simp only at ae aD;dsimp only[SV.val];go_enter func23,ntmps23;go_wp2_with(fail);refine(mB x hn ab ab _).mono ?_;rintro r ac ⟨rfl,rfl⟩;exact vz
theorem rG{a b:World}(h:Below a.heap.size a b):Ext a b:=⟨h.os,h.tape,h.output,h.size,λk ai _=>h.block k ai⟩
namespace CL
theorem gA{p:Prop}(h:p:=by
 refine tf ?_;refine cB ?_;generalize bD:World.setCell _ _ _=Z;obtain⟨bH,bn,bC⟩:=cm (w:=W) [.slice aM af N,.slice bY z s,.slice bQ ay bK,.int .i64 S.fault] (by rfl) eJ a8 gE bD;have G:(⟨aM,af,N,bY,z,s,bQ,ay,bK⟩:SV).Is Z (λb=>W.heap.size<=b/\b<Z.heap.size/\b≠bF) S:=(L.ai λb O=>bC.block b O.2.1 O.2.2).mono λb O=>⟨O.1,by have:=bC.size;have:=O.2.1;omega,O.2.2⟩
 have bc:=aL G bn bH;have bJ:=aH.2.2.aj bn;have U:=bn.size;obtain⟨aY,j,r⟩:=bH.two;obtain⟨bE,bg,bh⟩:=bJ.two;have J:=ad bJ;clear bD bH bn bC G eJ a8 gE L cu y ag bJ;go_wp2_with(fail);generalize bD:World.setCell _ _ _=Y;obtain⟨bz,bA,bj⟩:=cm (w:=w) [.slice aM af N,.slice bY z s,.slice bQ ay bK,.int .i64 S.fault] (by rfl) J.o (aH.1.trans bc.2.1) ab bD;have bP:=ah bA bj;clear bD bA bj bE bg bh aY j r;obtain⟨bE,bg,bh⟩:=bz.two;refine LK (v:=.agg #[.slice aM af N,.slice bY z s,.slice bQ ay bK,.int .i64 S.fault]) (by simp[results,Tryz.results30,go_sem,bE]) rfl ?_;have cw:=bP.2.size;exact⟨⟨aM,af,N,bY,z,s,bQ,ay,bK⟩,rfl,(bc.1.ai λb O=>bP.2.block b O.2.1 (aC O.1)).mono λb O=>⟨by have:=O.1;omega,by have:=O.2.1;omega⟩,bP.1⟩
 ):p:=h
end CL
open CL in
theorem wA(u:av)(p:UV)(A:LP)(n c:Nat)(l:List Int)(w:World)(hU:zo u)(hu:p.Ok w u)(hl:cK (EF b5) 1 w w.heap.size A n l) :
  Calls prog 30 #[.agg (p.val u),.slice A n c] w λe ac=>∃q:SV,e=.returned (.agg (q.val (iO u (eK u) (bU l 60))))/\q.Is ac (fresh w ac) (iO u (eK u) (bU l 60))/\Ext w ac:=by
 obtain⟨GA,gn,gc,MA,mn,mc,PA,pn,pc⟩:=p;have hlen:(bU l 60).length<=60:=by unfold bU;rw[Lf,List.length_take];omega
 have hex:∃S,iO u (eK u) (bU l 60)=S:=⟨_,rfl⟩
 obtain⟨S,hS⟩:=hex;have E:∃m:Nat,(jO u (eK u) (bU l 60)).length=m:=⟨_,rfl⟩
 obtain⟨m,hm⟩:=E;have cv:=bG hU hlen hS hm;have dP:∀(B:LP) (k d:Nat) (V:World),(⟨GA,gn,gc,MA,mn,mc,PA,pn,pc⟩:UV).Ok V u->cK (EF b5) 1 V V.heap.size B k (bU l 60)->k<=60->Calls prog 33 #[.agg ((⟨GA,gn,gc,MA,mn,mc,PA,pn,pc⟩:UV).val u),.slice B k d] V (zw V S m):=by
  intro B k d V ae aD aU;have:=I3 u (bU l 60) B k d V ⟨GA,gn,gc,MA,mn,mc,PA,pn,pc⟩ cv.1 ae aD ab;rw[cv.2.2.1,cv.2.2.2] at this;exact this
 have aZ:=ad dP;rw[hS];have H:=ah hu hl;clear hU hu hl hlen hS hm dP;dsimp only[UV.val];go_enter func30,ntmps30;go_upto_region 1 with(fail);generalize be:World.alloc _ _=W;have aE:=im be;have cM:an W w.heap.size 26 #[.slice GA gn gc,.slice MA mn mc,.slice PA pn pc,.int .i64 u.main]:=be▸(LM).alloc _;have cH:=fL be;have aH:=aL aE cM cH;have M:=cH.lt;have g:=ah (H.1.on aE) (H.2.cS aE.ext aE.size);obtain⟨bs,a7,bS⟩:=cM.two;clear be aE cM cH;refine uP (λ_=>False) [8] (.held 0 (.free 1 (.pick [2,7] (λi=>bif i == 2 then .pick [3,7] (λi=>bif i == 3 then .free 4 (.free 5 (.free 6 (.pick [7] (λ_=>.pick [8] (λ_=>.free 9 (.stop)))))) else .pick [3] (λ_=>.free 4 (.free 5 (.free 6 (.pick [8] (λ_=>.free 9 (.stop))))))) else .pick [2] (λ_=>.pick [3] (λ_=>.free 4 (.free 5 (.free 6 (.pick [8] (λ_=>.free 9 (.stop))))))))))) ?_;refine th ?_;refine tf ?_;refine iK (P:=?pw) (ops:=?H2) (Q:=?H4) (R:=?H6) (tails:=?H9) (rest:=.pick [8] (λ_=>.free 9 (.stop))) (aa:=?H0)
  (C:=λ(bF:Nat) (o:Value) (Y:Value) dG=>Ext W dG/\an dG bF 30 #[.slice none 0 0,.slice none 0 0,.slice none 0 0,.int .i64 0]/\W.heap.size<=bF/\∃aq:SV,Y=.agg (aq.val S)/\aq.Is dG (λb=>W.heap.size<=b/\b<dG.heap.size/\b≠bF) S) (λkey=>?yV) ?yO
 case yV=>
  refine bt ?_ ?_
  ·
   refine aG rfl (λK hK=>?_) rfl;go_simp;refine(picks_any A n c 60 l W.drew (g.2.cS (Below.drew (Below.refl _ _)) (Lb _)) ab).mono ?_;rintro e aV ⟨A2,c2,rfl,bR,I,a9⟩;have a2:Ext W.drew aV:=rG a9;have f:(bU l 60).length<=60:=cv.2.1;generalize dk:(bU l 60).length=aA at bR I f ⊢;clear dk;refine ei hK (a2) ?_;clear hK K;refine bt ?_ ?_
   ·
    refine aG rfl (λK hK=>?_) rfl;go_simp;refine(aZ.o A2 aA c2 aV (g.1.on (Fr.aQ a2)) I f).mono ?_;rintro e b3 ⟨aq,rfl,T,bu⟩;refine ei hK (bu) ?_;clear hK K
    iterate 3 refine tf ?_
    refine ao ?_;refine fj ?_;generalize bD:World.alloc _ _=Z;have e2:=bb bD;have aN:=aT bD;have s2:=a2.size;have ai:=bu.size;have fd:=e2.size;have hd:W.drew.heap.size=W.heap.size:=rfl;have F:Ext W Z/\an Z b3.heap.size 30 #[.slice none 0 0,.slice none 0 0,.slice none 0 0,.int .i64 0]/\W.heap.size<=b3.heap.size/\∃cp:SV,(Value.agg (aq.val S))=.agg (cp.val S)/\cp.Is Z (λb=>W.heap.size<=b/\b<Z.heap.size/\b≠b3.heap.size) S:=⟨((Fr.aQ a2).trans bu).trans e2,aN,ab,aq,rfl,(T.ai λb O=>e2.block b O.2 λh=>h).mono λb O=>ab⟩
    clear bD e2 aN T bu a2 s2 ai fd hd I a9 bR;revert F;generalize b3.heap.size=bF;exact zL
   ·
    refine fj ?_;generalize bD:World.alloc _ _=Z;have e2:=bb bD;have aN:=aT bD;refine ao ?_;refine aG rfl (λK hK=>?_) rfl;go_simp;refine(aZ.o A2 aA c2 Z (g.1.on ((Fr.aQ a2).trans e2)) (I.cS e2.ext e2.size) f).mono ?_;rintro e cz ⟨aq,rfl,T,bu⟩;refine ei hK (bu) ?_;clear hK K
    iterate 3 refine tf ?_
    have s2:=a2.size;have ai:=bu.size;have fd:=aN.lt;have hd:W.drew.heap.size=W.heap.size:=rfl;have F:Ext W cz/\an cz aV.heap.size 30 #[.slice none 0 0,.slice none 0 0,.slice none 0 0,.int .i64 0]/\W.heap.size<=aV.heap.size/\∃cp:SV,(Value.agg (aq.val S))=.agg (cp.val S)/\cp.Is cz (λb=>W.heap.size<=b/\b<cz.heap.size/\b≠aV.heap.size) S:=⟨((Fr.aQ a2).trans e2).trans bu,aN.aj bu,ab,aq,rfl,T.mono λb O=>ab⟩
    clear bD e2 aN T bu a2 s2 ai fd hd I a9 bR;revert F;generalize aV.heap.size=bF;exact zL
  ·
   refine fj ?_;generalize bD:World.drew (World.alloc _ _)=Z;have e2:=gX bD;have aN:=lN bD;refine ao ?_;refine aG rfl (λK hK=>?_) rfl;go_simp;refine(picks_any A n c 60 l Z (g.2.cS e2.ext e2.size) ab).mono ?_;rintro e aV ⟨A2,c2,rfl,bR,I,a9⟩;have a2:Ext Z aV:=rG a9;have f:(bU l 60).length<=60:=cv.2.1;generalize dk:(bU l 60).length=aA at bR I f ⊢;clear dk;refine ei hK (a2) ?_;clear hK K;refine ao ?_;refine aG rfl (λK hK=>?_) rfl;go_simp;refine(aZ.o A2 aA c2 aV (g.1.on (e2.trans a2)) I f).mono ?_;rintro e b3 ⟨aq,rfl,T,bu⟩;refine ei hK (bu) ?_;clear hK K
   iterate 3 refine tf ?_
   have s2:=a2.size;have ai:=bu.size;have fd:=aN.lt;have F:Ext W b3/\an b3 W.heap.size 30 #[.slice none 0 0,.slice none 0 0,.slice none 0 0,.int .i64 0]/\W.heap.size<=W.heap.size/\∃cp:SV,(Value.agg (aq.val S))=.agg (cp.val S)/\cp.Is b3 (λb=>W.heap.size<=b/\b<b3.heap.size/\b≠W.heap.size) S:=⟨(e2.trans a2).trans bu,(aN.aj a2).aj bu,Lb _,aq,rfl,T.mono λb O=>ab⟩
   clear bD e2 aN T bu a2 s2 ai fd I a9 bR;revert F key;generalize (Value.agg (aq.val S))=Y;generalize (Value.slice A2 aA c2)=o;intro key F;exact key W.heap.size o Y _ F
 case yO=>
  rintro bF o Y dG ⟨a8,eJ,gE,⟨aM,af,N,bY,z,s,bQ,ay,bK⟩,rfl,L⟩;dsimp only[SV.val];obtain⟨cu,y,ag⟩:=eJ.two;clear bs a7 bS;exact hk
theorem FQ(u:av)(hU:zo u)(l:List Int):aS u 60 (iO u (eK u) (bU l 60)):=by
 have h:=tr hU.ok (bU l 60) 0 (eK u) (ta hU.ok);have hl:(bU l 60).length<=60:=by unfold bU;rw[Lf,List.length_take];omega
 exact h.mono ab
theorem fT.fr(h:fT s w ac):Fr (λb=>b=s) w ac:=⟨h.os,h.tape,h.output,h.size,h.block⟩
theorem dR{X V:World}{cs:Array Value}(vs:List Value)(hs:cs.size=vs.length)(aN:an V g t cs)(aE:Fr M w V)(aK:w.heap.size<=g)(hX:rT g V 0 vs=X):
  an X g t vs.toArray/\Fr M w X/\Fr (λb=>b=g) V X:=by
 subst hX;have J:=kL (g:=g) vs 0 V;refine⟨?_,aE.eI (J.below aE.size λk ai h=>ab),J⟩;have ae:=ll vs 0 V cs aN;have aD:kq cs 0 vs=vs.toArray:=by
  apply Array.toList_inj.1
  rw[mw vs 0 cs ab];simp;omega
 rwa [aD] at ae
theorem cc.cM{c:Nat}{l:List Int}(h:cc w s A n c l)(O:Fr M w ac)(hM:∀b,b<=s->¬M b):cc ac s A n c l:=
 h.H3 (g:=s+1) (O.below h.lt λk ai=>hM k ab) ab
theorem Sl.Du{aP aV:World}(h:Sl aP (fresh w aP) A n l)(O:Fr M aP aV)(hM:∀b,M b->b<w.heap.size):Sl aV (fresh w aV) A n l:=
 (h.ai λb bL=>O.block b bL.2 λhm=>by have:=hM b hm;have:=bL.1;omega).mono λb bL=>⟨bL.1,Lc bL.2 O.size⟩
theorem Sl.nG{P:Nat->Prop}{cs:List Value}(aN:an w g t cs.toArray)(aQ:D.aJ w P l cs)(aY:P g)(hl:l.length=n):Sl w P (some ⟨g,0,none⟩) n l:=
 ⟨hl,λ_=>⟨g,0,cs,rfl,aY,aQ,λj u bd=>by rw[Lt,aN.cell];simpa using bd⟩⟩
def tJ(w:World)(s:Nat)(A:LP)(n c:Nat)(l:List Int)(V:LQ)(d:Nat)(e:Ending)(ac:World):Prop:=
 ∃(x:VE) (cu:LP) (cr cD:Nat),e=.returned (.agg #[.int .i64 x.aZ,.int .i64 x.numOf,.string x.bk,.slice cu cr cD])/\x.src V d/\cr<=cD/\Sl ac (fresh w ac) cu cr (x.args.map bf)/\cc ac s A n c l/\Fr (λb=>b=s) w ac
def ns(w:World)(s:Nat)(V:LQ)(I:LP)(bl:Nat):Prop:=Sl w (off (λb=>b=s) w) I bl (V.map .s)
theorem ns.on{V:LQ}{I:LP}{bl:Nat}(h:ns w s V I bl)(O:Fr (λb=>b=s) w ac):ns ac s V I bl:=Sl.cS h O
theorem uY(w:World)(s:Nat)(A:LP)(n c:Nat)(l:List Int)(V:LQ)(I:LP)(bl aa:Nat)(d:Nat)(hd:d<=5)(bB:bl<=1000)(h:cc w s A n c l)(hN:ns w s V I bl)
  (Q:d≠0->∀aV:World,cc aV s A n c l->ns aV s V I bl->Calls prog 140 #[.pointer (some ⟨s,0,none⟩),.slice I bl aa,.int .i64 ((d:Int) - 1)] aV (tJ aV s A n c l V (d - 1))) :
  Calls prog 140 #[.pointer (some ⟨s,0,none⟩),.slice I bl aa,.int .i64 d] w (tJ w s A n c l V d):=by
 have ct:=ad Q;have bZ:=h.lt;have L:=ah h hN;clear Q h hN;go_enter func140,ntmps140;go_wp2_with(fail);generalize be:World.alloc _ _=W;have aE:=bb be;have aN:an W w.heap.size 56 #[.int .i64 0,.int .i64 0,.string ⟨#[]⟩,.slice none 0 0]:=be▸an.hY _ _ _ rfl;have ac:Fr (λb=>b=s) w W:=aE.mono λ_ h=>h.elim;have aH:=dq (L.1.cM aE λ_ _ h=>h) (L.2.on ac) ac aN bZ;clear be aE aN ac L;refine(aX _ s A n c l 10 aH.1 ab ab).mono ?_;rintro e aP ⟨cd,rfl,a2,bL,h,he⟩;have H1:=ah h he.fr;have r:=ah a2 bL;clear h he;have U:w.heap.size<W.heap.size:=aH.2.2.2.1.lt;have b6:W.heap.size<=aP.heap.size:=H1.2.size;by_cases f:((d:Int) == 0)=true\/((d:Int) == 0)=false/\decide (cd<2)=true
 .clear ct r a2 bL;rcases f with R|⟨R,aK⟩
  all_goals
   by_cases cv:0<bl
   .have cp:decide ((0:Int)<(bl:Int))=true:=by simp;omega
    go_wp2_with(fail);refine(aX _ s A n c l 2 H1.1 ab ab).mono ?_;rintro e aV ⟨bJ,rfl,g,a9,h,he⟩;have bt:=ah h (H1.2.trans he.fr);clear h he;by_cases co:bJ=1
    .have bF:(bJ == 1)=true:=by simpa using co
     clear co g a9;go_wp2_with(fail);refine(aX _ s A n c l bl bt.1 ab ab).mono ?_;rintro e b3 ⟨aZ,rfl,S,aA,h,he⟩;have ao:=ah h (bt.2.trans he.fr);clear h he;obtain⟨j,rfl⟩:=Lg S;obtain⟨b,o,nm,cs,rfl,O,hm,aQ,hl,hc⟩:=Sl.gZ (enc:=D.s) (z:=1) (aH.2.1.on ao.2) (λ_=>rfl) (k:=j) ab;have J:cs=[.string nm]:=by simpa only[D.rep] using aQ
     subst J;have c0:=hc 0 _ rfl;simp only[Nat.mul_one,Ll] at c0;have bV:=aH.2.2.2.1.on ao.2 (λh=>by have:=aH.2.2.2.2;omega);have aO:=ad bV;obtain⟨e0,bk,a5⟩:=bV.two;have H:=ad (Le hm);clear aQ hl hc hm bV;go_wp2_with(fail);generalize b7:World.setCell _ _ _=Y;obtain⟨bz,bA,bj⟩:=dR (M:=λb=>b=s) [.int .i64 2,.int .i64 0,.string nm,.slice none 0 0] (by rfl) aO.o (aH.2.2.1.trans ao.2) (Lb _) b7;obtain⟨bE,bg,bh⟩:=bz.two;refine LK (v:=.agg #[.int .i64 2,.int .i64 0,.string nm,.slice none 0 0]) (by simp[results,Tryz.results140,go_sem,bE]) rfl ?_;exact⟨.gT nm,none,0,0,rfl,(by cases d<;>exact H.o),Lb _,Sl.bN _,ao.1.cM bj (λb O h=>by have:=aH.2.2.2.2;omega),bA⟩
    .have bF:(bJ == 1)=false:=by simpa using co
     clear co g a9;go_wp2_with(fail);refine(qy _ s A n c l bt.1).mono ?_;rintro e b3 ⟨aZ,rfl,S,aA,h,he⟩;have ao:=ah h (bt.2.trans he.fr);exact Gf
   .obtain rfl:bl=0:=ab;go_wp2_with(fail);refine(qy _ s A n c l H1.1).mono ?_;rintro e b3 ⟨aZ,rfl,S,aA,h,he⟩;have ao:=ah h (H1.2.trans he.fr);exact Gf
 have av:d≠0:=λh=>f (.inl (by simp[h]));have R:((d:Int) == 0)=false:=by simp;omega
 have aK:decide (cd<2)=false:=by
  have:¬(decide (cd<2)=true):=λh=>f (.inr ⟨R,h⟩);simpa using this
 have G:wrap64 ((d:Int) - 1)=(d:Int) - 1:=IntWalk.wrap64_in _ ab;have cJ:=ad av;have t:=ah U b6;clear f av;by_cases bM:cd<4
 .obtain aS|aS:cd=2\/cd=3:=by simp at aK;omega
  all_goals
   subst aS;clear bM a2 bL r aK b6 U;go_wp2_with(fail);refine(ct.o cJ.o _ H1.1 (aH.2.1.on H1.2)).mono ?_;rintro e aV ⟨x,cu,cr,cD,rfl,hx,aF,bX,h,he⟩;have bt:=ah h (H1.2.trans he);have aR:=bG hx aF bX he;have bV:=aH.2.2.2.1.on bt.2 (λh=>by have:=aH.2.2.2.2;omega);have aO:=ad bV;obtain⟨e0,bk,a5⟩:=bV.two;clear h he hx aF bX bV;go_wp2_with(fail);generalize b7:World.setCell _ _ _=Y;have cy:Y.heap.size=aV.heap.size:=by rw[<-b7];simp
   obtain⟨bz,bA,bj⟩:=dR (M:=λb=>b=s) [.int .i64 _,.int .i64 0,.string ⟨#[]⟩,.slice (some ⟨aV.heap.size,0,none⟩) 1 1] (by rfl) aO.o (aH.2.2.1.trans bt.2) (Lb _) b7;generalize bD:World.alloc _ _=Z;have bH:=bz.alloc (.cells #[.int .i64 x.aZ,.int .i64 x.numOf,.string x.bk,.slice cu cr cD] 56);rw[bD] at bH;have i:an Z aV.heap.size 56 #[.int .i64 x.aZ,.int .i64 x.numOf,.string x.bk,.slice cu cr cD]:=bD▸an.hY _ _ _ cy.symm;have bn:Fr (λb=>b=s) w Z:=bD▸bA.alloc _;have bC:Fr (λb=>b=w.heap.size) aV Z:=bD▸bj.alloc _;obtain⟨bE,bg,bh⟩:=bH.two;obtain⟨hx,aF,bX,he⟩:=aR.o;have cb:=aH.2.2.2.2;obtain⟨U,b6⟩:=t.o;have b5:=he.size;have b0:=i.lt;refine LK (v:=.agg #[.int .i64 _,.int .i64 0,.string ⟨#[]⟩,.slice (some ⟨aV.heap.size,0,none⟩) 1 1]) (by simp[results,Tryz.results140,go_sem,bE];rfl) rfl ?_;have m:Sl Z (fresh w Z) cu cr (x.args.map bf):=(bX.ai λb O=>bC.block b O.2 (aC O.1)).mono λb O=>⟨by have:=O.1;omega,Lc O.2 bC.size⟩
   refine⟨.un _ x,some ⟨aV.heap.size,0,none⟩,1,1,rfl,?_,Lb _,Sl.nG i (D.bo.2 (aW.2 ⟨cu,cr,cD,rfl,aF,m⟩)) ⟨ab,b0⟩ rfl,bt.1.cM bC (λb O h=>ab),bn⟩;have:=cJ.o;obtain⟨d2,rfl⟩:∃d2,d=d2+1:=⟨d - 1,ab⟩
   exact⟨by decide,hx⟩
 have dE:decide (cd<4)=false:=by simpa using bM
 clear a2 bL bM b6 U;go_wp2_with(fail);refine(aX _ s A n c l 13 H1.1 ab ab).mono ?_;rintro e aV ⟨bJ,rfl,g,a9,h,he⟩;have bt:=ah h (H1.2.trans he.fr);have bv:=he.size;clear h he;have K:wrap64 (5+bJ)=5+bJ:=IntWalk.wrap64_in _ ab;have bq:=ad (show 5<=5+bJ/\5+bJ<=17 by omega);have u:=ad bv;clear g a9 bv aK dE;go_wp2_with(fail);refine(ct.o cJ.o _ bt.1 (aH.2.1.on bt.2)).mono ?_;rintro e b3 ⟨x,cu,cr,cD,rfl,hx,aF,bX,h,he⟩;have ao:=ah h (bt.2.trans he);have aR:=bG hx aF bX he;clear h he hx aF bX;go_wp2_with(fail);refine(ct.o cJ.o _ ao.1 (aH.2.1.on ao.2)).mono ?_;rintro e cz ⟨y,cK,cR,cT,rfl,hx,aF,bX,h,he⟩;have P:=ah h (ao.2.trans he);have bP:=bG hx aF bX he;have bV:=aH.2.2.2.1.on P.2 (λh=>by have:=aH.2.2.2.2;omega);have aO:=ad bV;obtain⟨e0,bk,a5⟩:=bV.two;clear h he hx aF bX bV;go_wp2_with(fail);generalize b7:World.setCell _ _ _=Y;have cy:Y.heap.size=cz.heap.size:=by rw[<-b7];simp
 obtain⟨bz,bA,bj⟩:=dR (M:=λb=>b=s) [.int .i64 (5+bJ),.int .i64 0,.string ⟨#[]⟩,.slice (some ⟨cz.heap.size,0,none⟩) 2 2] (by rfl) aO.o (aH.2.2.1.trans P.2) (Lb _) b7;generalize bD:World.alloc _ _=Z;have bH:=bz.alloc (.cells #[.int .i64 x.aZ,.int .i64 x.numOf,.string x.bk,.slice cu cr cD,.int .i64 y.aZ,.int .i64 y.numOf,.string y.bk,.slice cK cR cT] 56);rw[bD] at bH;have i:an Z cz.heap.size 56 #[.int .i64 x.aZ,.int .i64 x.numOf,.string x.bk,.slice cu cr cD,.int .i64 y.aZ,.int .i64 y.numOf,.string y.bk,.slice cK cR cT]:=bD▸an.hY _ _ _ cy.symm;have bn:Fr (λb=>b=s) w Z:=bD▸bA.alloc _;have bC:Fr (λb=>b=w.heap.size) cz Z:=bD▸bj.alloc _;obtain⟨bE,bg,bh⟩:=bH.two;obtain⟨hx,aF,bX,he⟩:=aR.o;obtain⟨a4,cF,cw,bU⟩:=bP.o;have cb:=aH.2.2.2.2;obtain⟨U,b6⟩:=t.o;have bv:=u.o;have b5:=he.size;have br:=bU.size;have b0:=i.lt;refine LK (v:=.agg #[.int .i64 (5+bJ),.int .i64 0,.string ⟨#[]⟩,.slice (some ⟨cz.heap.size,0,none⟩) 2 2]) (by simp[results,Tryz.results140,go_sem,bE]) rfl ?_;have m:Sl Z (fresh w Z) cu cr (x.args.map bf):=(bX.ai λb O=>(bC.block b (aC O.2) (aC O.1)).trans (bU.block b O.2 (aC O.1))).mono λb O=>⟨by have:=O.1;omega,by have:=O.2;omega⟩
 have F:Sl Z (fresh w Z) cK cR (y.args.map bf):=(cw.ai λb O=>bC.block b O.2 (aC O.1)).mono λb O=>⟨by have:=O.1;omega,by have:=O.2;omega⟩
 refine⟨.bin (5+bJ) x y,some ⟨cz.heap.size,0,none⟩,2,2,rfl,?_,Lb _,Sl.nG i (gK.2 ⟨_,_,rfl,aW.2 ⟨cu,cr,cD,rfl,aF,m⟩,D.bo.2 (aW.2 ⟨cK,cR,cT,rfl,cF,F⟩)⟩) ⟨ab,b0⟩ rfl,P.1.cM bC (λb O h=>ab),bn⟩;have:=cJ.o;obtain⟨d2,rfl⟩:∃d2,d=d2+1:=⟨d - 1,ab⟩
 exact⟨bq.o,hx,a4⟩
theorem pk(s:Nat)(A:LP)(n c:Nat)(l:List Int)(V:LQ)(I:LP)(bl aa:Nat)(bB:bl<=1000):∀(d:Nat),d<=5->∀(w:World),cc w s A n c l->ns w s V I bl->
  Calls prog 140 #[.pointer (some ⟨s,0,none⟩),.slice I bl aa,.int .i64 d] w (tJ w s A n c l V d)
 | 0,hd,w,h,hN=>uY w s A n c l V I bl aa 0 hd bB h hN (λh=>absurd rfl h)
 | d+1,hd,w,h,hN=>uY w s A n c l V I bl aa (d+1) hd bB h hN (λ_ aV aD a=>by
   have:=pk s A n c l V I bl aa bB d ab aV aD a;rw[show ((d+1:Nat):Int) - 1=d by omega];exact this)
end Go.Proofs.YtflecliffjbleaaGreat
