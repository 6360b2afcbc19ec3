/- Part 36 of the proof. No condition of its own. -/
import Derived.Test.YtflecliffjbleaaGreatS29
namespace Go.Proofs.YtflecliffjbleaaGreat
open Go.RowKit Go.Proofs.Tryz
set_option maxRecDepth 1000000
set_option maxHeartbeats 25600000
set_option linter.unusedVariables false
variable{l:List D}{g n s:Nat}{M:Nat->Prop}{A:Mk}{t:TypeId}{ab w:World}
def qJ(x:Int):Int:=if Int.tmod x 16=7 then x else within x 4
def b0(l:List Int)(m:Nat):List Int:=(l.take m).map qJ
theorem zn(A:Mk)(n c m:Nat)(l:List Int)(w:World)(h:cA (EF cd) 1 w w.heap.size A n l)(hm:m<=1000) :
  Calls prog 28 #[.slice A n c,.int .i64 m] w λr ab=>∃I aD,r=.returned (.slice I (b0 l m).length aD)/\(b0 l m).length<=aD/\cA (EF cd) 1 ab ab.heap.size I (b0 l m).length (b0 l m)/\Below w.heap.size w ab/\∀g,(Value.slice I (b0 l m).length aD).ownBlock=some g->w.heap.size<=g:=by
 have hl:=h.1;have b2:=ae hl;clear hl;go_enter func28,ntmps28;go_wp2;go_loopw [5,6] (λv i wr=>∃k:Nat,k<=n/\k<=m/\i=.int .i64 k/\wr.ownsRow w.heap.size 3 1 v k (((l.take k).map qJ).flatMap cd)/\Below w.heap.size w wr) (λ_ i _=>n - (intOf i).toNat)
 case atStart=>exact⟨0,L3 _,L3 _,rfl,World.ownsRow_nil _ _ _ _,Below.refl _ _⟩
 case round=>
  obtain⟨k,aj,s,rfl,az,O⟩:=hrel;by_cases ap:k<n/\k<m
  .obtain⟨a7,cK⟩:=ap;obtain⟨b,o,x,rfl,an,hx,c0⟩:=(h.fH O).int a7;have ci:=O.size;have bM:=ae (show ((l.take (k+1)).map qJ).flatMap cd=((l.take k).map qJ).flatMap cd++[.int .i64 (qJ x)] by rw[aU hx,LJ,List.map_singleton,fF]);clear hx;have e:qJ x=if Int.tmod x 16=7 then x else within x 4:=rfl
   have j:=ae e;clear e;by_cases C:Int.tmod x 16=7
   .have q:=ae C;have f:(Int.tmod x 16 == 7)=true:=by simpa using C
    clear C;go_wp2_with(at_builtin;refine cy _ cU (by rfl) (.tmp 24) (.tmp 29) (by rfl) w.heap.size _ _ _ _ (by rfl) az (by rfl) (by rfl) (jO _ _) ad ad ci ?_;intro v1 aP ay aI b5);go_roundw
    case rel=>exact⟨k+1,ad,ad,by go_num,by rw[bM.o,j.o,if_pos q.o];exact ay,dX O az aI (Lz _) ci⟩
    case measure=>exact aE
   .have q:=ae C;have f:(Int.tmod x 16 == 7)=false:=by simpa using C
    clear C;go_wp2_with(fail);refine(mE x 4 ad ad _).mono ?_;rintro r ab ⟨rfl,rfl⟩;go_wp2_with(at_builtin;refine cy _ cU (by rfl) (.tmp 31) (.tmp 37) (by rfl) w.heap.size _ _ _ _ (by rfl) az (by rfl) (by rfl) (jO _ _) ad ad ci ?_;intro v1 aP ay aI b5);go_roundw
    case rel=>exact⟨k+1,ad,ad,by go_num,by rw[bM.o,j.o,if_neg q.o];exact ay,dX O az aI (Lz _) ci⟩
    case measure=>exact aE
  .obtain⟨cp,c1,rfl,cN,_,_,_⟩:=bH az;have hlen:(b0 l m).length=k:=by
    have:=b2.o;unfold b0;rw[LG,List.length_take];omega
   have he:(l.take k).map qJ=b0 l m:=by
    have:=b2.o;unfold b0;congr 1
    rcases Nat.lt_or_ge k m with ac|ac
    .rw[LK ad,LK ad]
    .rw[show k=m by omega]
   obtain⟨F,bj⟩:=aH hlen he;clear hlen he;have fin:∃I aD,Ending.returned (.slice cp k c1)=.returned (.slice I (b0 l m).length aD)/\(b0 l m).length<=aD/\cA (EF cd) 1 wr wr.heap.size I (b0 l m).length (b0 l m)/\Below w.heap.size w wr/\∀g,(Value.slice I (b0 l m).length aD).ownBlock=some g->w.heap.size<=g:=by
    rw[F.o,<-bj.o];exact⟨cp,c1,rfl,cN,hy az (ho _) (by rw[bj.o];exact F.o),O,λg aY=>(az.lt g aY).1⟩
   have d:=ae fin;clear fin;by_cases a7:k<n
   .have t:¬k<m:=λag=>ap ⟨a7,ag⟩;clear ap;go_wp2;go_ret;exact d.o
   .clear ap;go_wp2;go_ret;exact d.o
theorem sa(A:Mk)(n c m:Nat)(l:List Int)(w:World)(h:cA (EF cd) 1 w w.heap.size A n l)(hm:m<=1000) :
  Calls prog 28 #[.slice A n c,.int .i64 m] w λr ab=>∃I aD,r=.returned (.slice I (b0 l m).length aD)/\(b0 l m).length<=aD/\cA (EF cd) 1 ab ab.heap.size I (b0 l m).length (b0 l m)/\Below w.heap.size w ab:=
 (zn A n c m l w h hm).mono λ_ _ ⟨I,aD,ac,ax,a1,aU,_⟩=>⟨I,aD,ac,ax,a1,aU⟩
theorem thread_any(q:SV)(s:ai)(x:Int)(w:World)(h:q.Ok w s)(ac:1<=q.hn)(ax:q.hn<=1000000) :
  Calls prog 23 #[.agg (q.val s),.int .i64 x] w λe ab=>e=.returned (.int .i64 (within x q.hn))/\Ext w ab:=by
 obtain⟨bE,bK,bw,TA,tn,tc,HA,hn,hc⟩:=q;clear h;simp only at ac ax;dsimp only[SV.val];go_enter func23,ntmps23;go_wp2_with(fail);refine(mE x hn ad ad _).mono ?_;rintro r ab ⟨rfl,rfl⟩;exact vL
theorem rL{a b:World}(h:Below a.heap.size a b):Ext a b:=⟨h.os,h.tape,h.output,h.size,λk aj _=>h.block k aj⟩
namespace DD
theorem fO{p:Prop}(h:p:=by
 refine tf ?_;refine ck ?_;generalize bG:World.setCell _ _ _=Z;obtain⟨bt,ba,bf⟩:=bs (w:=W) [.slice aH ai T,.slice dl s r,.slice bW ay be,.int .i64 S.fault] (by rfl) bV bL gP bG;have G:(⟨aH,ai,T,dl,s,r,bW,ay,be⟩:SV).Is Z (λb=>W.heap.size<=b/\b<Z.heap.size/\b≠cD) S:=(L.ak λb O=>bf.block b O.2.1 O.2.2).mono λb O=>⟨O.1,by have:=bf.size;have:=O.2.1;omega,O.2.2⟩
 have bh:=aA G ba bt;have bc:=ag.2.2.aj ba;have U:=ba.size;obtain⟨a6,j,o⟩:=bt.two;obtain⟨bp,aM,aV⟩:=bc.two;have I:=ae bc;clear bG bt ba bf G bV bL gP L b1 y al bc;go_wp2_with(fail);generalize bG:World.setCell _ _ _=Y;obtain⟨bD,bx,bJ⟩:=bs (w:=w) [.slice aH ai T,.slice dl s r,.slice bW ay be,.int .i64 S.fault] (by rfl) I.o (ag.1.trans bh.2.1) ad bG;have bF:=ah bx bJ;clear bG bx bJ bp aM aV a6 j o;obtain⟨bp,aM,aV⟩:=bD.two;refine Mf (v:=.agg #[.slice aH ai T,.slice dl s r,.slice bW ay be,.int .i64 S.fault]) (by simp[results,Tryz.results30,go_sem,bp]) rfl ?_;have bl:=bF.2.size;exact⟨⟨aH,ai,T,dl,s,r,bW,ay,be⟩,rfl,(bh.1.ak λb O=>bF.2.block b O.2.1 (aB O.1)).mono λb O=>⟨by have:=O.1;omega,by have:=O.2.1;omega⟩,bF.1⟩
 ):p:=h
end DD
open DD in
theorem wN(u:aw)(p:UV)(A:Mk)(n c:Nat)(l:List Int)(w:World)(hU:yH u)(hu:p.Ok w u)(hl:cA (EF cd) 1 w w.heap.size A n l) :
  Calls prog 30 #[.agg (p.val u),.slice A n c] w λe ab=>∃q:SV,e=.returned (.agg (q.val (iZ u (eV u) (b0 l 60))))/\q.Is ab (fresh w ab) (iZ u (eV u) (b0 l 60))/\Ext w ab:=by
 obtain⟨GA,gn,gc,MA,mn,mc,PA,pn,pc⟩:=p;have hlen:(b0 l 60).length<=60:=by unfold b0;rw[LG,List.length_take];omega
 have hex:∃S,iZ u (eV u) (b0 l 60)=S:=⟨_,rfl⟩
 obtain⟨S,hS⟩:=hex;have E:∃m:Nat,(jV u (eV u) (b0 l 60)).length=m:=⟨_,rfl⟩
 obtain⟨m,hm⟩:=E;have cz:=bA hU hlen hS hm;have dW:∀(B:Mk) (k d:Nat) (V:World),(⟨GA,gn,gc,MA,mn,mc,PA,pn,pc⟩:UV).Ok V u->cA (EF cd) 1 V V.heap.size B k (b0 l 60)->k<=60->Calls prog 33 #[.agg ((⟨GA,gn,gc,MA,mn,mc,PA,pn,pc⟩:UV).val u),.slice B k d] V (zN V S m):=by
  intro B k d V ac ax a1;have:=JG u (b0 l 60) B k d V ⟨GA,gn,gc,MA,mn,mc,PA,pn,pc⟩ cz.1 ac ax ad;rw[cz.2.2.1,cz.2.2.2] at this;exact this
 have a2:=ae dW;rw[hS];have H:=ah hu hl;clear hU hu hl hlen hS hm dW;dsimp only[UV.val];go_enter func30,ntmps30;go_upto_region 1 with(fail);generalize bd:World.alloc _ _=W;have aF:=hi bd;have cV:ao W w.heap.size 26 #[.slice GA gn gc,.slice MA mn mc,.slice PA pn pc,.int .i64 u.main]:=bd▸(Mh).alloc _;have co:=eX bd;have ag:=aA aF cV co;have aj:=co.lt;have g:=ah (H.1.on aF) (H.2.cS aF.ext aF.size);obtain⟨bU,aX,a4⟩:=cV.two;clear bd aF cV co;refine tw (λ_=>False) [8] (.held 0 (.free 1 (.pick [2,7] (λi=>bif i == 2 then .pick [3,7] (λi=>bif i == 3 then .free 4 (.free 5 (.free 6 (.pick [7] (λ_=>.pick [8] (λ_=>.free 9 (.stop)))))) else .pick [3] (λ_=>.free 4 (.free 5 (.free 6 (.pick [8] (λ_=>.free 9 (.stop))))))) else .pick [2] (λ_=>.pick [3] (λ_=>.free 4 (.free 5 (.free 6 (.pick [8] (λ_=>.free 9 (.stop))))))))))) ?_;refine th ?_;refine tf ?_;refine iV (P:=?pI) (ops:=?IM) (Q:=?IP) (R:=?IQ) (tails:=?IT) (rest:=.pick [8] (λ_=>.free 9 (.stop))) (aa:=?IL)
  (C:=λ(cD:Nat) (z:Value) (Y:Value) fg=>Ext W fg/\ao fg cD 30 #[.slice none 0 0,.slice none 0 0,.slice none 0 0,.int .i64 0]/\W.heap.size<=cD/\∃ar:SV,Y=.agg (ar.val S)/\ar.Is fg (λb=>W.heap.size<=b/\b<fg.heap.size/\b≠cD) S) (λkey=>?ze) ?y7
 case ze=>
  refine a5 ?_ ?_
  ·
   refine aD rfl (λK hK=>?_) rfl;go_simp;refine(sa A n c 60 l W.drew (g.2.cS (Below.drew (Below.refl _ _)) (Lz _)) ad).mono ?_;rintro e aW ⟨A2,c2,rfl,cf,ct,bg⟩;have aT:Ext W.drew aW:=rL bg;have f:(b0 l 60).length<=60:=cz.2.1;generalize dc:(b0 l 60).length=N at cf ct f ⊢;clear dc;refine dP hK (aT) ?_;clear hK K;refine a5 ?_ ?_
   ·
    refine aD rfl (λK hK=>?_) rfl;go_simp;refine(a2.o A2 N c2 aW (g.1.on (Fr.aF aT)) ct f).mono ?_;rintro e b4 ⟨ar,rfl,au,a3⟩;refine dP hK (a3) ?_;clear hK K
    iterate 3 refine tf ?_
    refine aq ?_;refine eu ?_;generalize bG:World.alloc _ _=Z;have e2:=aZ bG;have aS:=aN bG;have s2:=aT.size;have cJ:=a3.size;have ff:=e2.size;have hd:W.drew.heap.size=W.heap.size:=rfl;have F:Ext W Z/\ao Z b4.heap.size 30 #[.slice none 0 0,.slice none 0 0,.slice none 0 0,.int .i64 0]/\W.heap.size<=b4.heap.size/\∃cO:SV,(Value.agg (ar.val S))=.agg (cO.val S)/\cO.Is Z (λb=>W.heap.size<=b/\b<Z.heap.size/\b≠b4.heap.size) S:=⟨((Fr.aF aT).trans a3).trans e2,aS,ad,ar,rfl,(au.ak λb O=>e2.block b O.2 λh=>h).mono λb O=>ad⟩
    clear bG e2 aS au a3 aT s2 cJ ff hd ct bg cf;revert F;generalize b4.heap.size=cD;exact z6
   ·
    refine eu ?_;generalize bG:World.alloc _ _=Z;have e2:=aZ bG;have aS:=aN bG;refine aq ?_;refine aD rfl (λK hK=>?_) rfl;go_simp;refine(a2.o A2 N c2 Z (g.1.on ((Fr.aF aT).trans e2)) (ct.cS e2.ext e2.size) f).mono ?_;rintro e cI ⟨ar,rfl,au,a3⟩;refine dP hK (a3) ?_;clear hK K
    iterate 3 refine tf ?_
    have s2:=aT.size;have cJ:=a3.size;have ff:=aS.lt;have hd:W.drew.heap.size=W.heap.size:=rfl;have F:Ext W cI/\ao cI aW.heap.size 30 #[.slice none 0 0,.slice none 0 0,.slice none 0 0,.int .i64 0]/\W.heap.size<=aW.heap.size/\∃cO:SV,(Value.agg (ar.val S))=.agg (cO.val S)/\cO.Is cI (λb=>W.heap.size<=b/\b<cI.heap.size/\b≠aW.heap.size) S:=⟨((Fr.aF aT).trans e2).trans a3,aS.aj a3,ad,ar,rfl,au.mono λb O=>ad⟩
    clear bG e2 aS au a3 aT s2 cJ ff hd ct bg cf;revert F;generalize aW.heap.size=cD;exact z6
  ·
   refine eu ?_;generalize bG:World.drew (World.alloc _ _)=Z;have e2:=hh bG;have aS:=lP bG;refine aq ?_;refine aD rfl (λK hK=>?_) rfl;go_simp;refine(sa A n c 60 l Z (g.2.cS e2.ext e2.size) ad).mono ?_;rintro e aW ⟨A2,c2,rfl,cf,ct,bg⟩;have aT:Ext Z aW:=rL bg;have f:(b0 l 60).length<=60:=cz.2.1;generalize dc:(b0 l 60).length=N at cf ct f ⊢;clear dc;refine dP hK (aT) ?_;clear hK K;refine aq ?_;refine aD rfl (λK hK=>?_) rfl;go_simp;refine(a2.o A2 N c2 aW (g.1.on (e2.trans aT)) ct f).mono ?_;rintro e b4 ⟨ar,rfl,au,a3⟩;refine dP hK (a3) ?_;clear hK K
   iterate 3 refine tf ?_
   have s2:=aT.size;have cJ:=a3.size;have ff:=aS.lt;have F:Ext W b4/\ao b4 W.heap.size 30 #[.slice none 0 0,.slice none 0 0,.slice none 0 0,.int .i64 0]/\W.heap.size<=W.heap.size/\∃cO:SV,(Value.agg (ar.val S))=.agg (cO.val S)/\cO.Is b4 (λb=>W.heap.size<=b/\b<b4.heap.size/\b≠W.heap.size) S:=⟨(e2.trans aT).trans a3,(aS.aj aT).aj a3,Lz _,ar,rfl,au.mono λb O=>ad⟩
   clear bG e2 aS au a3 aT s2 cJ ff ct bg cf;revert F key;generalize (Value.agg (ar.val S))=Y;generalize (Value.slice A2 N c2)=z;intro key F;exact key W.heap.size z Y _ F
 case y7=>
  rintro cD z Y fg ⟨bL,bV,gP,⟨aH,ai,T,dl,s,r,bW,ay,be⟩,rfl,L⟩;dsimp only[SV.val];obtain⟨b1,y,al⟩:=bV.two;clear bU aX a4;exact gr
theorem GB(u:aw)(hU:yH u)(l:List Int):aT u 60 (iZ u (eV u) (b0 l 60)):=by
 have h:=tz hU.ok (b0 l 60) 0 (eV u) (tk hU.ok);have hl:(b0 l 60).length<=60:=by unfold b0;rw[LG,List.length_take];omega
 exact h.mono ad
theorem gq.fr(h:gq s w ab):Fr (λb=>b=s) w ab:=⟨h.os,h.tape,h.output,h.size,h.block⟩
theorem ef{X V:World}{cs:Array Value}(vs:List Value)(hs:cs.size=vs.length)(aS:ao V g t cs)(aF:Fr M w V)(aY:w.heap.size<=g)(hX:rX g V 0 vs=X):
  ao X g t vs.toArray/\Fr M w X/\Fr (λb=>b=g) V X:=by
 subst hX;have J:=kN (g:=g) vs 0 V;refine⟨?_,aF.eU (J.below aF.size λk aj h=>ad),J⟩;have ac:=lr vs 0 V cs aS;have ax:jm cs 0 vs=vs.toArray:=by
  apply Array.toList_inj.1
  rw[mB vs 0 cs ad];simp;omega
 rwa [ax] at ac
theorem cp.cT{c:Nat}{l:List Int}(h:cp w s A n c l)(O:Fr M w ab)(hM:∀b,b<=s->¬M b):cp ab s A n c l:=
 h.IN (g:=s+1) (O.below h.lt λk aj=>hM k ad) ad
theorem Sl.Eg{aP aW:World}(h:Sl aP (fresh w aP) A n l)(O:Fr M aP aW)(hM:∀b,M b->b<w.heap.size):Sl aW (fresh w aW) A n l:=
 (h.ak λb bX=>O.block b bX.2 λhm=>by have:=hM b hm;have:=bX.1;omega).mono λb bX=>⟨bX.1,LC bX.2 O.size⟩
theorem Sl.nP{P:Nat->Prop}{cs:List Value}(aS:ao w g t cs.toArray)(a9:D.aO w P l cs)(be:P g)(hl:l.length=n):Sl w P (some ⟨g,0,none⟩) n l:=
 ⟨hl,λ_=>⟨g,0,cs,rfl,be,a9,λj u bi=>by rw[LW,aS.cell];simpa using bi⟩⟩
def tR(w:World)(s:Nat)(A:Mk)(n c:Nat)(l:List Int)(V:Ml)(d:Nat)(e:Ending)(ab:World):Prop:=
 ∃(x:VE) (cr:Mk) (cd cC:Nat),e=.returned (.agg #[.int .i64 x.a2,.int .i64 x.numOf,.string x.bt,.slice cr cd cC])/\x.src V d/\cd<=cC/\Sl ab (fresh w ab) cr cd (x.args.map bk)/\cp ab s A n c l/\Fr (λb=>b=s) w ab
def nu(w:World)(s:Nat)(V:Ml)(N:Mk)(bn:Nat):Prop:=Sl w (off (λb=>b=s) w) N bn (V.map .s)
theorem nu.on{V:Ml}{N:Mk}{bn:Nat}(h:nu w s V N bn)(O:Fr (λb=>b=s) w ab):nu ab s V N bn:=Sl.cS h O
theorem vh(w:World)(s:Nat)(A:Mk)(n c:Nat)(l:List Int)(V:Ml)(N:Mk)(bn aq:Nat)(d:Nat)(hd:d<=5)(cb:bn<=1000)(h:cp w s A n c l)(hN:nu w s V N bn)
  (ap:d≠0->∀aW:World,cp aW s A n c l->nu aW s V N bn->Calls prog 140 #[.pointer (some ⟨s,0,none⟩),.slice N bn aq,.int .i64 ((d:Int) - 1)] aW (tR aW s A n c l V (d - 1))) :
  Calls prog 140 #[.pointer (some ⟨s,0,none⟩),.slice N bn aq,.int .i64 d] w (tR w s A n c l V d):=by
 have cM:=ae ap;have b0:=h.lt;have ab:=ah h hN;clear ap h hN;go_enter func140,ntmps140;go_wp2_with(fail);generalize bd:World.alloc _ _=W;have aF:=aZ bd;have aS:ao W w.heap.size 56 #[.int .i64 0,.int .i64 0,.string ⟨#[]⟩,.slice none 0 0]:=bd▸ao.gA _ _ _ rfl;have aU:Fr (λb=>b=s) w W:=aF.mono λ_ h=>h.elim;have ag:=cX (ab.1.cT aF λ_ _ h=>h) (ab.2.on aU) aU aS b0;clear bd aF aS aU ab;refine(aY _ s A n c l 10 ag.1 ad ad).mono ?_;rintro e aP ⟨cv,rfl,bm,bX,h,he⟩;have H1:=ah h he.fr;have r:=ah bm bX;clear h he;have U:w.heap.size<W.heap.size:=ag.2.2.2.1.lt;have cg:W.heap.size<=aP.heap.size:=H1.2.size;by_cases f:((d:Int) == 0)=true\/((d:Int) == 0)=false/\decide (cv<2)=true
 .clear cM r bm bX;rcases f with cU|⟨cU,dv⟩
  all_goals
   by_cases ai:0<bn
   .have b6:decide ((0:Int)<(bn:Int))=true:=by simp;omega
    go_wp2_with(fail);refine(aY _ s A n c l 2 H1.1 ad ad).mono ?_;rintro e aW ⟨bR,rfl,g,bg,h,he⟩;have bZ:=ah h (H1.2.trans he.fr);clear h he;by_cases cK:bR=1
    .have cy:(bR == 1)=true:=by simpa using cK
     clear cK g bg;go_wp2_with(fail);refine(aY _ s A n c l bn bZ.1 ad ad).mono ?_;rintro e b4 ⟨cR,rfl,S,aD,h,he⟩;have bY:=ah h (bZ.2.trans he.fr);clear h he;obtain⟨j,rfl⟩:=LH S;obtain⟨b,o,nm,cs,rfl,O,hm,a9,hl,hc⟩:=Sl.g9 (enc:=D.s) (z:=1) (ag.2.1.on bY.2) (λ_=>rfl) (k:=j) ad;have I:cs=[.string nm]:=by simpa only[D.rep] using a9
     subst I;have c0:=hc 0 _ rfl;simp only[Nat.mul_one,LM] at c0;have b5:=ag.2.2.2.1.on bY.2 (λh=>by have:=ag.2.2.2.2;omega);have aI:=ae b5;obtain⟨e0,a6,aQ⟩:=b5.two;have Q:=ae (LF hm);clear a9 hl hc hm b5;go_wp2_with(fail);generalize cq:World.setCell _ _ _=Y;obtain⟨bD,bx,bJ⟩:=ef (M:=λb=>b=s) [.int .i64 2,.int .i64 0,.string nm,.slice none 0 0] (by rfl) aI.o (ag.2.2.1.trans bY.2) (Lz _) cq;obtain⟨bp,aM,aV⟩:=bD.two;refine Mf (v:=.agg #[.int .i64 2,.int .i64 0,.string nm,.slice none 0 0]) (by simp[results,Tryz.results140,go_sem,bp]) rfl ?_;exact⟨.ha nm,none,0,0,rfl,(by cases d<;>exact Q.o),Lz _,Sl.bT _,bY.1.cT bJ (λb O h=>by have:=ag.2.2.2.2;omega),bx⟩
    .have cy:(bR == 1)=false:=by simpa using cK
     clear cK g bg;go_wp2_with(fail);refine(qD _ s A n c l bZ.1).mono ?_;rintro e b4 ⟨cR,rfl,S,aD,h,he⟩;have bY:=ah h (bZ.2.trans he.fr);exact G2
   .obtain rfl:bn=0:=ad;go_wp2_with(fail);refine(qD _ s A n c l H1.1).mono ?_;rintro e b4 ⟨cR,rfl,S,aD,h,he⟩;have bY:=ah h (H1.2.trans he.fr);exact G2
 have aw:d≠0:=λh=>f (.inl (by simp[h]));have cU:((d:Int) == 0)=false:=by simp;omega
 have dv:decide (cv<2)=false:=by
  have:¬(decide (cv<2)=true):=λh=>f (.inr ⟨cU,h⟩);simpa using this
 have G:wrap64 ((d:Int) - 1)=(d:Int) - 1:=IntWalk.wrap64_in _ ad;have dQ:=ae aw;have t:=ah U cg;clear f aw;by_cases bh:cv<4
 .obtain aO|aO:cv=2\/cv=3:=by simp at dv;omega
  all_goals
   subst aO;clear bh bm bX r dv cg U;go_wp2_with(fail);refine(cM.o dQ.o _ H1.1 (ag.2.1.on H1.2)).mono ?_;rintro e aW ⟨x,cr,cd,cC,rfl,hx,aL,ce,h,he⟩;have bZ:=ah h (H1.2.trans he);have aR:=bA hx aL ce he;have b5:=ag.2.2.2.1.on bZ.2 (λh=>by have:=ag.2.2.2.2;omega);have aI:=ae b5;obtain⟨e0,a6,aQ⟩:=b5.two;clear h he hx aL ce b5;go_wp2_with(fail);generalize cq:World.setCell _ _ _=Y;have dh:Y.heap.size=aW.heap.size:=by rw[<-cq];simp
   obtain⟨bD,bx,bJ⟩:=ef (M:=λb=>b=s) [.int .i64 _,.int .i64 0,.string ⟨#[]⟩,.slice (some ⟨aW.heap.size,0,none⟩) 1 1] (by rfl) aI.o (ag.2.2.1.trans bZ.2) (Lz _) cq;generalize bG:World.alloc _ _=Z;have bt:=bD.alloc (.cells #[.int .i64 x.a2,.int .i64 x.numOf,.string x.bt,.slice cr cd cC] 56);rw[bG] at bt;have i:ao Z aW.heap.size 56 #[.int .i64 x.a2,.int .i64 x.numOf,.string x.bt,.slice cr cd cC]:=bG▸ao.gA _ _ _ dh.symm;have ba:Fr (λb=>b=s) w Z:=bG▸bx.alloc _;have bf:Fr (λb=>b=w.heap.size) aW Z:=bG▸bJ.alloc _;obtain⟨bp,aM,aV⟩:=bt.two;obtain⟨hx,aL,ce,he⟩:=aR.o;have cj:=ag.2.2.2.2;obtain⟨U,cg⟩:=t.o;have bu:=he.size;have bM:=i.lt;refine Mf (v:=.agg #[.int .i64 _,.int .i64 0,.string ⟨#[]⟩,.slice (some ⟨aW.heap.size,0,none⟩) 1 1]) (by simp[results,Tryz.results140,go_sem,bp];rfl) rfl ?_;have m:Sl Z (fresh w Z) cr cd (x.args.map bk):=(ce.ak λb O=>bf.block b O.2 (aB O.1)).mono λb O=>⟨by have:=O.1;omega,LC O.2 bf.size⟩
   refine⟨.un _ x,some ⟨aW.heap.size,0,none⟩,1,1,rfl,?_,Lz _,Sl.nP i (D.bw.2 (aX.2 ⟨cr,cd,cC,rfl,aL,m⟩)) ⟨ad,bM⟩ rfl,bZ.1.cT bf (λb O h=>ad),ba⟩;have:=dQ.o;obtain⟨d2,rfl⟩:∃d2,d=d2+1:=⟨d - 1,ad⟩
   exact⟨by decide,hx⟩
 have dW:decide (cv<4)=false:=by simpa using bh
 clear bm bX bh cg U;go_wp2_with(fail);refine(aY _ s A n c l 13 H1.1 ad ad).mono ?_;rintro e aW ⟨bR,rfl,g,bg,h,he⟩;have bZ:=ah h (H1.2.trans he.fr);have bP:=he.size;clear h he;have H:wrap64 (5+bR)=5+bR:=IntWalk.wrap64_in _ ad;have a5:=ae (show 5<=5+bR/\5+bR<=17 by omega);have u:=ae bP;clear g bg bP dv dW;go_wp2_with(fail);refine(cM.o dQ.o _ bZ.1 (ag.2.1.on bZ.2)).mono ?_;rintro e b4 ⟨x,cr,cd,cC,rfl,hx,aL,ce,h,he⟩;have bY:=ah h (bZ.2.trans he);have aR:=bA hx aL ce he;clear h he hx aL ce;go_wp2_with(fail);refine(cM.o dQ.o _ bY.1 (ag.2.1.on bY.2)).mono ?_;rintro e cI ⟨y,cY,c5,c6,rfl,hx,aL,ce,h,he⟩;have P:=ah h (bY.2.trans he);have bF:=bA hx aL ce he;have b5:=ag.2.2.2.1.on P.2 (λh=>by have:=ag.2.2.2.2;omega);have aI:=ae b5;obtain⟨e0,a6,aQ⟩:=b5.two;clear h he hx aL ce b5;go_wp2_with(fail);generalize cq:World.setCell _ _ _=Y;have dh:Y.heap.size=cI.heap.size:=by rw[<-cq];simp
 obtain⟨bD,bx,bJ⟩:=ef (M:=λb=>b=s) [.int .i64 (5+bR),.int .i64 0,.string ⟨#[]⟩,.slice (some ⟨cI.heap.size,0,none⟩) 2 2] (by rfl) aI.o (ag.2.2.1.trans P.2) (Lz _) cq;generalize bG:World.alloc _ _=Z;have bt:=bD.alloc (.cells #[.int .i64 x.a2,.int .i64 x.numOf,.string x.bt,.slice cr cd cC,.int .i64 y.a2,.int .i64 y.numOf,.string y.bt,.slice cY c5 c6] 56);rw[bG] at bt;have i:ao Z cI.heap.size 56 #[.int .i64 x.a2,.int .i64 x.numOf,.string x.bt,.slice cr cd cC,.int .i64 y.a2,.int .i64 y.numOf,.string y.bt,.slice cY c5 c6]:=bG▸ao.gA _ _ _ dh.symm;have ba:Fr (λb=>b=s) w Z:=bG▸bx.alloc _;have bf:Fr (λb=>b=w.heap.size) cI Z:=bG▸bJ.alloc _;obtain⟨bp,aM,aV⟩:=bt.two;obtain⟨hx,aL,ce,he⟩:=aR.o;obtain⟨bb,bO,bl,bL⟩:=bF.o;have cj:=ag.2.2.2.2;obtain⟨U,cg⟩:=t.o;have bP:=u.o;have bu:=he.size;have bq:=bL.size;have bM:=i.lt;refine Mf (v:=.agg #[.int .i64 (5+bR),.int .i64 0,.string ⟨#[]⟩,.slice (some ⟨cI.heap.size,0,none⟩) 2 2]) (by simp[results,Tryz.results140,go_sem,bp]) rfl ?_;have m:Sl Z (fresh w Z) cr cd (x.args.map bk):=(ce.ak λb O=>(bf.block b (aB O.2) (aB O.1)).trans (bL.block b O.2 (aB O.1))).mono λb O=>⟨by have:=O.1;omega,by have:=O.2;omega⟩
 have F:Sl Z (fresh w Z) cY c5 (y.args.map bk):=(bl.ak λb O=>bf.block b O.2 (aB O.1)).mono λb O=>⟨by have:=O.1;omega,by have:=O.2;omega⟩
 refine⟨.bin (5+bR) x y,some ⟨cI.heap.size,0,none⟩,2,2,rfl,?_,Lz _,Sl.nP i (g0.2 ⟨_,_,rfl,aX.2 ⟨cr,cd,cC,rfl,aL,m⟩,D.bw.2 (aX.2 ⟨cY,c5,c6,rfl,bO,F⟩)⟩) ⟨ad,bM⟩ rfl,P.1.cT bf (λb O h=>ad),ba⟩;have:=dQ.o;obtain⟨d2,rfl⟩:∃d2,d=d2+1:=⟨d - 1,ad⟩
 exact⟨a5.o,hx,bb⟩
theorem pA(s:Nat)(A:Mk)(n c:Nat)(l:List Int)(V:Ml)(N:Mk)(bn aq:Nat)(cb:bn<=1000):∀(d:Nat),d<=5->∀(w:World),cp w s A n c l->nu w s V N bn->
  Calls prog 140 #[.pointer (some ⟨s,0,none⟩),.slice N bn aq,.int .i64 d] w (tR w s A n c l V d)
 | 0,hd,w,h,hN=>vh w s A n c l V N bn aq 0 hd cb h hN (λh=>absurd rfl h)
 | d+1,hd,w,h,hN=>vh w s A n c l V N bn aq (d+1) hd cb h hN (λ_ aW ax a=>by
   have:=pA s A n c l V N bn aq cb d ad aW ax a;rw[show ((d+1:Nat):Int) - 1=d by omega];exact this)
end Go.Proofs.YtflecliffjbleaaGreat
