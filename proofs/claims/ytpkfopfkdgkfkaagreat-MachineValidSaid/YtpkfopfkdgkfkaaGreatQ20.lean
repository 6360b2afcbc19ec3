/- Part 20 of the proof. No condition of its own. -/
import Derived.Test.YtpkfopfkdgkfkaaGreatQ18
namespace Go.Proofs.YtpkfopfkdgkfkaaGreat
open Go.RowKit Go.Proofs.Tryz
set_option maxRecDepth 1000000
set_option maxHeartbeats 25600000
set_option linter.unusedVariables false
variable{cs:List Value}{k:Nat}{P:Nat->Prop}{p:Prop}
structure zz(w:World)(g:Nat)(F:List aL):Prop where
 lt:g<w.heap.size
 ex:∃A n c,n<=1000000/\w.cell? ⟨g,2,none⟩=some (.slice A n c)/\Sl w (aq w) A n (F.map dD)
theorem zz.on{w ab:World}{g:Nat}{F:List aL}(h:zz w g F)(O:Ext w ab):zz ab g F:=by
 exact DZ
theorem k5{w:World}{f:aL}:(dD f).rep w P cs↔∃A n c B m k,cs=[.string f.name,.slice A n c,.slice B m k]/\n<=c/\m<=k/\Sl w P A n (f.params.map cD)/\Sl w P B m (dc f.body):=by
 unfold dD;rw[bN,cu];constructor
 .rintro⟨y,rfl,h⟩;obtain⟨A,n,c,cp,rfl,hc,hs,h⟩:=aO.1 h;obtain⟨B,m,k,cX,rfl,aj,O,h⟩:=aO.1 h;rw[aR] at h;subst h;exact⟨A,n,c,B,m,k,rfl,hc,aj,hs,O⟩
 .rintro⟨A,n,c,B,m,k,rfl,hc,aj,hs,O⟩;exact⟨_,rfl,aO.2 ⟨A,n,c,_,rfl,hc,hs,aO.2 ⟨B,m,k,[],rfl,aj,O,aR.2 rfl⟩⟩⟩
theorem nt(f:aL):(dD f).sz=3:=rfl
theorem rF(q:ByteArray×Bool):(cD q).sz=2:=rfl
theorem nZ{w:World}{q:ByteArray×Bool}:(cD q).rep w P cs↔cs=[.string q.1,.bool q.2]:=by
 unfold cD;rw[bN,cu];constructor
 .rintro⟨y,rfl,h⟩;obtain⟨cX,rfl,ap⟩:=fD.1 h;rw[aR] at ap;subst ap;rfl
 .rintro rfl;exact⟨_,rfl,fD.2 ⟨_,rfl,aR.2 rfl⟩⟩
theorem Im:cn prog 120 119 (.agg #[false,(0:Int),()]) 3 40:=cn.mk' Tryz.underlying120 (by kernel_rfl) rfl ad
abbrev fJ(op t:Int)(g:Bool)(IA:Mt)(i ic:Nat)(bw:Mt)(k lc:Nat):Array Value:=
 #[.int .i64 op,.int .i64 t,.bool g,.int .i64 0,.int .i64 0,.string ⟨#[]⟩,.slice none 0 0,.bool false,.int .i64 0,.slice none 0 0,.slice IA i ic,.slice bw k lc]
theorem Em{w:World}{r:e4}(h:(eU (.mx r)).rep w P cs):∃s A n c A2 c2,cs=[.bool true,.string s,.slice A n c,.int .i64 0,.int .i64 0,.string ⟨#[]⟩,.slice A2 0 c2]/\(kL r).rep w P [.string s,.slice A n c]:=by
 exact Hz
namespace CU
theorem vK(h:p:=by
 obtain⟨A,n,c,bp,rfl,_,_,aL⟩:=aO.1 hx;rw[aR] at aL;subst aL;rw[D.bg] at bb;obtain⟨A2,dv,c2,rfl,_,_⟩:=aZ.1 bb;exact⟨_,_,_,_,_,_,_,_,_,rfl,bb⟩
 ):p:=h
end CU
open CU in
theorem Ek{w:World}{e:VE}(h:(eU (.ex e)).rep w P cs):∃cM bI rc op n s A m c,cs=[.bool false,.string ⟨#[]⟩,.slice cM bI rc,.int .i64 op,.int .i64 n,.string s,.slice A m c]/\(bm e).rep w P [.int .i64 op,.int .i64 n,.string s,.slice A m c]:=by
 exact vJ
theorem qC{w:World}{l:List D}(h:D.aM w P l cs):D.aM w P (jU::l) (.int .i64 0::.int .i64 0::.string ⟨#[]⟩::.slice none 0 0::cs):=
 dL.2 ⟨[(0:Int),(0:Int),Mq,()],cs,rfl,fw.2 ⟨none,0,rfl⟩,h⟩
theorem om{w:World}{l:List D}(h:D.aM w P l cs):D.aM w P (dy kn::l) (.bool false::.int .i64 0::.slice none 0 0::cs):=
 dL.2 ⟨[false,(0:Int),()],cs,rfl,eh.2 ⟨none,0,0,rfl,LK _,Sl.bS _⟩,h⟩
theorem jC{w:World}{op t:Int}{g:Bool}{is:List VE}{ps:List bU}{IA:Mt}{i ic:Nat}{bw:Mt}{lc:Nat}(ac:Sl w P IA i (is.map bm))(ap:Sl w P bw k (ps.map dy))(c1:i<=ic)(c2:k<=lc):
  (ew ⟨op,t,g,none,kn,is,ps⟩).rep w P (fJ op t g IA i ic bw k lc).toList:=by
 unfold ew;rw[bN];exact bo.2 ⟨_,rfl,bo.2 ⟨_,rfl,fD.2 ⟨_,rfl,qC (om (aO.2 ⟨IA,i,ic,_,rfl,c1,ac,aO.2 ⟨bw,k,lc,[],rfl,c2,ap,aR.2 rfl⟩⟩))⟩⟩⟩
theorem vT:cn prog 69 122 (.agg (fJ 0 0 false none 0 0 none 0 0)) 12 168:=cn.mk' Tryz.underlying69 (by kernel_rfl) rfl ad
structure cP(w:World)(g B:Nat)(M:List bM)(F:List aL)(l:List dQ)(bw:Mt)(ln lc:Nat)(n:Int)(st:Nat)(code:List aC)(sites:List Int)(S:Mt)(b2:Nat)(bV:Mt)(bD:Nat):Prop where
 blk:∃GA gn gc MA mn mc FA fn fc,au w g 163 #[.slice GA gn gc,.slice MA mn mc,.slice FA fn fc,.slice bw ln lc,.int .i64 n,.int .i64 st,.int .i64 0,.int .i64 0,.slice S code.length b2,.slice bV sites.length bD]/\mn<=1000000/\fn<=1000000/\
  Sl w (off (Ms g (.slice S code.length b2) (.slice bV sites.length bD)) w) MA mn (M.map eK)/\Sl w (off (Ms g (.slice S code.length b2) (.slice bV sites.length bD)) w) FA fn (F.map dD)
 base:g<B/\B<=w.heap.size
 names:ln<=1000000/\Sl w (off (Ms g (.slice S code.length b2) (.slice bV sites.length bD)) w) bw ln (l.map b0)
 rows:lA B 122 12 3 1 w S code.length b2 (code.map ew) bV sites.length bD (sites.map D.i)
section
variable {w ab aS aT b7 cS X:World} {g B:Nat} {M:List bM} {F:List aL} {l:List dQ} {bw:Mt} {ln lc:Nat} {n:Int} {st:Nat} {code:List aC} {sites:List Int} {S:Mt} {b2:Nat} {bV:Mt} {bD:Nat}
theorem cP.lt(h:cP w g B M F l bw ln lc n st code sites S b2 bV bD):g<w.heap.size:=by
 obtain⟨GA,gn,gc,MA,mn,mc,FA,fn,fc,aQ,_⟩:=h.blk;exact aQ.lt
theorem cP.L(h:cP w g B M F l bw ln lc n st code sites S b2 bV bD):tF w g l:=by
 obtain⟨GA,gn,gc,MA,mn,mc,FA,fn,fc,aQ,_⟩:=h.blk;exact⟨aQ.lt,bw,ln,lc,h.names.1,aQ.cell 3,h.names.2.mono λb O=>O.1⟩
theorem cP.M_(h:cP w g B M F l bw ln lc n st code sites S b2 bV bD):yy w g M:=by
 obtain⟨GA,gn,gc,MA,mn,mc,FA,fn,fc,aQ,ac,ap,aV,bz⟩:=h.blk;exact⟨aQ.lt,MA,mn,mc,ac,aQ.cell 1,aV.mono λb O=>O.1⟩
theorem cP.F_(h:cP w g B M F l bw ln lc n st code sites S b2 bV bD):zz w g F:=by
 obtain⟨GA,gn,gc,MA,mn,mc,FA,fn,fc,aQ,ac,ap,aV,bz⟩:=h.blk;exact⟨aQ.lt,FA,fn,fc,ap,aQ.cell 2,bz.mono λb O=>O.1⟩
theorem cP.aj(h:cP w g B M F l bw ln lc n st code sites S b2 bV bD)(he:Ext w ab):cP ab g B M F l bw ln lc n st code sites S b2 bV bD:=by
 obtain⟨GA,gn,gc,MA,mn,mc,FA,fn,fc,aQ,ac,ap,aV,bz⟩:=h.blk;exact⟨⟨GA,gn,gc,MA,mn,mc,FA,fn,fc,aQ.aj he,ac,ap,aV.cT (Mv.hq he),bz.cT (Mv.hq he)⟩,⟨h.base.1,L6 h.base.2 he.size⟩,⟨h.names.1,h.names.2.cT (Mv.hq he)⟩,h.rows.aj he⟩
abbrev KN(B g:Nat)(cv sv:Value)(w:World):Nat->Prop:=λb=>B<=b/\off (Ms g cv sv) w b
theorem cP.added(h:cP w g B M F l bw ln lc n st code sites S b2 bV bD){x:aC}{s:Int}{Y al:Mt}{ah aH:Nat}(e1:Ext w aS)
  (ac:Gr (λb=>B<=b/\(Value.slice bV sites.length bD).ownBlock≠some b) B 122 12 aT Y (code.length+1) ah (code.map ew++[ew x])) (f1:Fr (λb=>(Value.slice S code.length b2).ownBlock=some b) aS aT) (o1:dB aS S code.length b2 Y (code.length+1) ah)
  (e2:Ext aT b7) (ap:Gr (λb=>B<=b/\(Value.slice Y (code.length+1) ah).ownBlock≠some b) B 3 1 cS al (sites.length+1) aH (sites.map D.i++[D.i s])) (f2:Fr (λb=>(Value.slice bV sites.length bD).ownBlock=some b) b7 cS) (fm:dB b7 bV sites.length bD al (sites.length+1) aH)
  (hX:(cS.setCell ⟨g,8,none⟩ (.slice Y (code.length+1) ah)).setCell ⟨g,9,none⟩ (.slice al (sites.length+1) aH)=X) :
  cP X g B M F l bw ln lc n st (code++[x]) (sites++[s]) Y ah al aH/\Mv g (.slice S code.length b2) (.slice bV sites.length bD) w (.slice Y (code.length+1) ah) (.slice al (sites.length+1) aH) X:=by
 have an:=h.lt;have b4:=FZ hX;have s1:=e1.size;have s2:=f1.size;have dN:=e2.size;have hM:Mv g (.slice S code.length b2) (.slice bV sites.length bD) w (.slice Y (code.length+1) ah) (.slice al (sites.length+1) aH) X:=by
  refine⟨Fr.trans (Fr.mono e1 λ_ h=>h.elim) (Fr.trans (f1.mono λb O=>.inr (.inl O)) (Fr.trans (Fr.mono e2 λ_ h=>h.elim) (Fr.trans (f2.mono λb O=>.inr (.inr O)) (b4.mono λb O=>.inl O)))),λb O hm=>?_⟩;rcases hm with hm|hm|hm
  .exact .inl hm
  .rcases o1 b hm with ac|ac
   .exact .inr (.inl ac)
   .omega
  .rcases fm b hm with ac|ac
   .exact .inr (.inr ac)
   .omega
 refine⟨?_,hM⟩;obtain⟨GA,gn,gc,MA,mn,mc,FA,fn,fc,aQ,cx,bY,b9,H⟩:=h.blk;have a:∀b,(Value.slice S code.length b2).ownBlock=some b->g<b:=λb O=>LL h.base.1 (h.rows.one.lt O).1;have aa:∀b,(Value.slice bV sites.length bD).ownBlock=some b->g<b:=λb O=>LL h.base.1 (h.rows.two.lt O).1;have bZ:au cS g _ _:=(((aQ.aj e1).on f1 λO=>by have:=a _ O;omega).aj e2).on f2 λO=>by have:=aa _ O;omega
 have L:lA B 122 12 3 1 b7 Y (code.length+1) ah (code.map ew++[ew x]) bV sites.length bD (sites.map D.i):=((h.rows.aj e1).grow ac f1 o1).aj e2;have Z:=(L.swap.grow ap f2 fm).swap;refine⟨⟨GA,gn,gc,MA,mn,mc,FA,fn,fc,?_,cx,bY,?_,?_⟩,⟨h.base.1,L6 h.base.2 hM.fr.size⟩,⟨h.names.1,?_⟩,?_⟩
 .rw[<-hX,LM,LM];exact(bZ.aN 8 _).aN 9 _
 .rw[LM,LM];exact b9.cT hM
 .rw[LM,LM];exact H.cT hM
 .rw[LM,LM];exact h.names.2.cT hM
 .rw[LR,LR,LM,LM];exact Z.cZ b4 λb O _=>by have:=h.base.1;omega
end
def H5(w:World)(g B:Nat)(M:List bM)(F:List aL)(l:List dQ)(bw:Mt)(ln lc:Nat)(n:Int)(st:Nat)(code:List aC)(sites:List Int)(S:Mt)(b2:Nat)(bV:Mt)(bD:Nat)(x:aC)(s:Int)(e:Ending)(ab:World):Prop:=
 e=.returned (.int .i64 code.length)/\∃Y ah al aH,cP ab g B M F l bw ln lc n st (code++[x]) (sites++[s]) Y ah al aH/\Mv g (.slice S code.length b2) (.slice bV sites.length bD) w (.slice Y (code.length+1) ah) (.slice al (sites.length+1) aH) ab
theorem hh{w:World}{g B:Nat}{M:List bM}{F:List aL}{l:List dQ}{bw:Mt}{ln lc:Nat}{n:Int}{st:Nat}{code:List aC}{sites:List Int}{S:Mt}{b2:Nat}{bV:Mt}{bD:Nat}(h:cP w g B M F l bw ln lc n st code sites S b2 bV bD)
  (x:aC) (s:Int) {op t:Int} {gl:Bool} {eo en:Int} {es:ByteArray} {EA:Mt} {em ec:Nat} {pb:Bool} {pi:Int} {PA:Mt} {pm pc:Nat} {IA:Mt} {i ic:Nat} {KA:Mt} {k kc:Nat}
  (hx:(ew x).rep w (KN B g (.slice S code.length b2) (.slice bV sites.length bD) w) [op,t,gl,eo,en,es,.slice EA em ec,pb,pi,.slice PA pm pc,.slice IA i ic,.slice KA k kc])
  (ac:code.length<=100000) (ap:sites.length<=100000) :
  Calls prog 72 #[.pointer (some ⟨g,0,none⟩),.agg #[op,t,gl,eo,en,es,.slice EA em ec,pb,pi,.slice PA pm pc,.slice IA i ic,.slice KA k kc],s] w
   (H5 w g B M F l bw ln lc n st code sites S b2 bV bD x s):=by
 obtain⟨H,aN⟩:=aJ h hx;obtain⟨GA,gn,gc,MA,mn,mc,FA,fn,fc,aQ,_⟩:=h.blk;have b9:=ae aQ;clear h hx aQ;go_enter func72,ntmps72;go_upto_region 1 with(fail);generalize ba:World.alloc _ _=W;have aw:=aU ba;have ao:=aI ba;clear ba;obtain⟨br,d2⟩:=aJ aw ao;obtain⟨a0,ai,af⟩:=ao.two;obtain⟨bq,am,aG⟩:=(b9.aj aw).two;have d8:=b9.lt;have od:=aw.size;have dg:=H.base.1;have eb:=H.base.2;clear aw ao;have b3:¬(Value.slice S code.length b2).ownBlock=some g:=λO=>by have:=(H.rows.one.lt O).1;omega
 have aq:¬(Value.slice S code.length b2).ownBlock=some w.heap.size:=λO=>by have:=(H.rows.one.lt O).2;omega
 have cx:∀b,(Value.slice S code.length b2).ownBlock=some b->b<W.heap.size:=λb O=>by have:=(H.rows.one.lt O).2;omega
 have y:∀b,(Value.slice bV sites.length bD).ownBlock=some b->b<W.heap.size:=λb O=>by have:=(H.rows.two.lt O).2;omega
 have u:(ew x).rep W (lh (λb=>B<=b/\(Value.slice bV sites.length bD).ownBlock≠some b) W (.slice S code.length b2)) _:=
  D.aK (λb O=>⟨⟨O.1,λhc=>O.2.2 (.inr (.inr hc))⟩,LL O.2.1 od,λhc=>O.2.2 (.inr (.inl hc))⟩) _ _ (D.aS (λb O=>br.block b O.2.1 λh=>h) _ _ aN.o)
 have m:=H.rows.aj br.o;obtain⟨j,T⟩:=aJ u m;clear u m;refine r0 (λb=>(Value.slice S code.length b2).ownBlock=some b) [15,18,21] (.free 0 (.free 1 (.free 2 (.free 3 (.free 4 (.held 5 (.held 6 (.free 9 (.free 10 (.free 11 (.held 12 (.free 13 (.pick [7,14] (λi=>bif i == 7 then .pick [8,14] (λi=>bif i == 8 then .pick [14] (λ_=>.pick [15] (λ_=>.free 16 (.free 17 (.pick [18] (λ_=>.free 19 (.free 20 (.pick [21] (λ_=>.stop)))))))) else .pick [8] (λ_=>.pick [15] (λ_=>.free 16 (.free 17 (.pick [18] (λ_=>.free 19 (.free 20 (.pick [21] (λ_=>.stop))))))))) else .pick [7] (λ_=>.pick [8] (λ_=>.pick [15] (λ_=>.free 16 (.free 17 (.pick [18] (λ_=>.free 19 (.free 20 (.pick [21] (λ_=>.stop))))))))))))))))))))))) ?_
 iterate 5 refine tf ?_
 iterate 2 refine oI ?_
 iterate 3 refine tf ?_
 refine oI ?_;refine tf ?_;refine iT (P:=?P1) (ops:=?o1) (Q:=?q1) (R:=?r1) (tails:=?t1) (rest:=.pick [15] (λ_=>.free 16 (.free 17 (.pick [18] (λ_=>.free 19 (.free 20 (.pick [21] (λ_=>.stop)))))))) (aa:=?Lu)
  (C:=λ(_:Nat) bA A2 c2 V=>True/\∃aS aT,Ext W aS/\Gr (λb=>B<=b/\(Value.slice bV sites.length bD).ownBlock≠some b) B 122 12 aT A2 (code.length+1) c2 (code.map ew++[ew x])/\Fr (λb=>(Value.slice S code.length b2).ownBlock=some b) aS aT/\dB aS S code.length b2 A2 (code.length+1) c2/\Ext aT V/\au V bA 3 #[s]) (λkey=>?JB) ?Kh
 case JB=>
  refine a2 ?_ ?_
  ·
   refine eu ?_;generalize hV:World.drew (World.alloc _ _)=fh;have e1:=gQ hV;have bP:au fh W 122 #[op,t,gl,eo,en,es,.slice EA em ec,pb,pi,.slice PA pm pc,.slice IA i ic,.slice KA k kc]:=hV▸Mp;clear hV;refine a2 ?_ ?_
   ·
    refine aE rfl (λK hK=>?_) rfl;rw[if_pos (by rfl)];refine fo vT (.tmp 12) (.tmp 14) (by rfl) (T.aj e1).one bP (wv j.o e1) (by rfl) (by rfl) (by rfl) ad ad (ay e1.size) ?_;intro Y ah aT bT f1 o1 c1;refine dq hK (f1) ?_;clear hK K;refine av ?_;refine eu ?_;have F:True/\∃aS f,Ext W aS/\Gr (λb=>B<=b/\(Value.slice bV sites.length bD).ownBlock≠some b) B 122 12 f Y (code.length+1) ah (code.map ew++[ew x])/\Fr (λb=>(Value.slice S code.length b2).ownBlock=some b) aS f/\dB aS S code.length b2 Y (code.length+1) ah/\Ext f (aT.alloc (.cells #[s] 3))/\au (aT.alloc (.cells #[s] 3)) (aT.heap.size) 3 #[s]:=
     ⟨trivial,fh,aT,e1,bT,f1,o1,Mo.alloc _,Mp⟩
    clear bT o1;revert F;generalize aT.heap.size=bA;generalize W.heap.size=cZ;intro F;exact key cZ bA Y ah _ F
   ·
    refine eu ?_;generalize hV:World.alloc _ _=o;have a7:au o fh 3 #[s]:=hV▸Mp;have aR:=by have:=bP.alloc (.cells #[s] 3);rw[hV] at this;exact this
    have e2:Ext W o:=hV▸e1.alloc _;clear hV bP;refine av ?_;refine aE rfl (λK hK=>?_) rfl;rw[if_pos (by rfl)];refine fo vT (.tmp 12) (.tmp 14) (by rfl) (T.aj e2).one aR (wv j.o e2) (by rfl) (by rfl) (by rfl) ad ad (ay e2.size) ?_;intro Y ah aT bT f1 o1 c1;refine dq hK (f1) ?_;clear hK K;have bi:¬(Value.slice S code.length b2).ownBlock=some fh.heap.size:=λO=>by have:=cx _ O;have:=e1.size;omega
    have F:True/\∃aS f,Ext W aS/\Gr (λb=>B<=b/\(Value.slice bV sites.length bD).ownBlock≠some b) B 122 12 f Y (code.length+1) ah (code.map ew++[ew x])/\Fr (λb=>(Value.slice S code.length b2).ownBlock=some b) aS f/\dB aS S code.length b2 Y (code.length+1) ah/\Ext f aT/\au aT (fh.heap.size) 3 #[s]:=
     ⟨trivial,o,aT,e2,bT,f1,o1,Mo,a7.on f1 bi⟩
    clear bT o1;revert F;generalize fh.heap.size=bA;generalize W.heap.size=cZ;intro F;exact key cZ bA Y ah _ F
  ·
   refine eu ?_;generalize hV:World.drew (World.alloc _ _)=fh;have a7:au fh W 3 #[s]:=hV▸Mp;have e1:=gQ hV;clear hV;refine av ?_;refine eu ?_;generalize hV:World.alloc _ _=o;have e2:Ext W o:=hV▸e1.alloc _;have bP:=aI hV;have aV:au o W 3 #[s]:=hV▸a7.alloc _;clear hV;refine av ?_;refine aE rfl (λK hK=>?_) rfl;rw[if_pos (by rfl)];refine fo vT (.tmp 12) (.tmp 14) (by rfl) (T.aj e2).one bP (wv j.o e2) (by rfl) (by rfl) (by rfl) ad ad (ay e2.size) ?_;intro Y ah aT bT f1 o1 c1;refine dq hK (f1) ?_;clear hK K;have bi:¬(Value.slice S code.length b2).ownBlock=some W.heap.size:=λO=>by have:=cx _ O;omega
   have F:True/\∃aS f,Ext W aS/\Gr (λb=>B<=b/\(Value.slice bV sites.length bD).ownBlock≠some b) B 122 12 f Y (code.length+1) ah (code.map ew++[ew x])/\Fr (λb=>(Value.slice S code.length b2).ownBlock=some b) aS f/\dB aS S code.length b2 Y (code.length+1) ah/\Ext f aT/\au aT (W.heap.size) 3 #[s]:=
    ⟨trivial,o,aT,e2,bT,f1,o1,Mo,aV.on f1 bi⟩
   clear bT o1;revert F;generalize W.heap.size=bA;generalize fh.heap.size=cZ;intro F;exact key cZ bA Y ah _ F
 case Kh=>
  rintro cZ bA Y ah V ⟨v,aS,aT,e1,bT,f1,o1,e2,a7⟩;have s1:=e1.size;have s2:=f1.size;have dN:=e2.size;have hG:lA B 122 12 3 1 V Y (code.length+1) ah (code.map ew++[ew x]) bV sites.length bD (sites.map D.i):=((T.aj e1).grow bT f1 o1).aj e2;have b8:au V g _ _:=(((b9.aj br.o).aj e1).on f1 b3).aj e2;have r:¬(Value.slice bV sites.length bD).ownBlock=some g:=λO=>by have:=(H.rows.two.lt O).1;omega
  clear a0 ai af bq am aG;refine av ?_;refine bR rfl (λK hK=>?_) rfl;rw[if_pos (by rfl)];refine fo cF (.tmp 19) (.tmp 21) (by rfl) hG.two a7 (show (D.i s).rep V _ _ from by simp only[D.rep]) (by rfl) (by rfl) (by rfl) ad ad ad ?_;intro al aH cS g2 f2 fm c2;have bX:=az g2 f2 fm;have bZ:=b8.on f2 r;have de:=cL e1 bT f1 o1 e2;clear g2 f2 fm b8 a7 e1 bT f1 o1 e2 hG;obtain⟨bq,am,aG⟩:=bZ.two;refine dX hK ?_;clear hK K
  iterate 2 refine tf ?_
  refine av ?_;refine bR rfl (λK hK=>?_) rfl;go_simp;refine dX hK ?_;clear hK K
  iterate 2 refine tf ?_
  refine av ?_;refine bR rfl (λK hK=>?_) rfl;go_simp;refine dX hK ?_;clear hK K;refine ch ?_;generalize hX:World.setCell _ _ _=X;obtain⟨e1,bT,f1,o1,e2⟩:=de.o;obtain⟨hS,hM⟩:=cP.added H.o (br.trans e1) bT f1 o1 e2 bX.1 bX.2.1 bX.2.2 hX;have bt:=ag hS hM;obtain⟨bg,bJ,aY,ey,gq,eE,cD,f3,ck,bp,_⟩:=hS.blk;clear hX bq am aG bZ hS hM e1 bT f1 o1 e2;obtain⟨bq,am,aG⟩:=bp.two;go_wp2;go_ret;refine⟨ret_int ?_,Y,ah,al,aH,?_⟩
  .simp
  .exact bt.o
def iV(t:Nat)(l:List aD):List UInt8:=(l.map (dF t)).flatten
theorem yA{t:Nat}{l:List aD}{s:aD}(h:l[k]?=some s):iV t (l.take (k+1))=iV t (l.take k)++dF t s:=by
 unfold iV;rw[List.take_add_one,h,LR,List.flatten_append];simp
theorem xR(t:Nat)(l:List aD)(k:Nat):(iV t (l.take k)).length<=(iV t l).length:=by
 conv=>rhs;rw[<-List.take_append_drop k l]
 unfold iV;rw[LR,List.flatten_append,LM];omega
theorem fa:∀b:ao,b.list.length<=b.num
 | .nil=>LK _
 | .set v n e rest=>by have:=fa rest;simp[ao.list,ao.num];omega
 | .call g n aW rest=>by have:=fa rest;simp[ao.list,ao.num];omega
 | .lock u r rest=>by have:=fa rest;simp[ao.list,ao.num];omega
 | .ite e th el rest=>by have:=fa rest;simp[ao.list,ao.num];omega
 | .gI e th rest=>by have:=fa rest;simp[ao.list,ao.num];omega
 | .ret rest=>by have:=fa rest;simp[ao.list,ao.num];omega
namespace Df
theorem Ap(h:p:=by
 exact B5
 ):p:=h
theorem vE(h:p:=by
 have X:=ae I;clear a4 dQ I cz m bh O;go_upto_region 7 with(fail);generalize ba:World.alloc wr _=W;have l:=aU ba;have aQ:=aI ba;obtain⟨b9,P⟩:=aJ aQ l;have bv:=ae (D.on X.expr (Fr.ext l));have ct:=ae (D.on X.ref (Fr.ext l));have Q:=ae (X.args.on (Fr.ext l));have ag:=ae (X.th.on (Fr.ext l));have bp:=ae (X.el.on (Fr.ext l));obtain⟨a0,ai,af⟩:=aQ.two;clear ba l aQ d0 d1 d2 d3 d4 d5 d6 d7 d8 d9 d10 X a1;have am:(strOf (iV t (b.list.take k))++T).size<=2000000:=by rw[ByteArray.size_append];omega
 generalize E:strOf (iV t (b.list.take k))++T=pre at *;have y:=ae E.symm;clear E aL
 cases s with
 | set v nm e=>
  obtain⟨N,d,hx⟩:=az.expr e rfl;have aN:=ae (jQ N d e hx);have cA:(bY e).length<=262144:=by have:=S.o;simp[dF] at this;omega
  have f:=ae cA;have cb:(strOf (bY e)).size<=262144:=by rw[aP];exact cA
  have z:nm.size<=262144:=by have:=S.o;simp[dF] at this;have ap:nm.size=nm.data.toList.length:=rfl;simp at ap;omega
  clear cA hx;simp only[aD.kind,aD.name] at *;cases v
  .simp only[Mm,if_false] at *;have aK:=ae (show (((((pre++nm)++(⟨#[32,61,32]⟩:ByteArray))++strOf (bY e))++(⟨#[59]⟩:ByteArray))++(⟨#[10]⟩:ByteArray))=strOf (iV t (b.list.take (k+1))) by
    rw[i.o,y.o,<-aa.o];rw[show (⟨#[32,61,32]⟩:ByteArray)=strOf [32,61,32] from rfl];rw[show (⟨#[59]⟩:ByteArray)=strOf [59] from rfl];rw[show (⟨#[10]⟩:ByteArray)=strOf [10] from rfl];conv=>lhs;rw[<-dk nm]
    rw[ah,ah,ah,ah,ah,ah];simp[dF])
   go_wp2;refine eJ (λ_=>False) [(0,3),(1,3),(2,0),(3,3),(4,3),(5,3),(6,0),(7,1),(8,3),(9,3),(10,3)] ?_
   iterate 2 refine pf ?_
   refine ph ?_;refine bs (v:=?_) rfl (by rfl) (λV=>?_) ?_;rotate_left
   .go_simp;exact ez
   try simp only[PU]
   refine bs (v:=?_) rfl (by rfl) (λV=>?_) ?_;rotate_left
   .go_simp;exact ez
   try simp only[PU]
   refine pf ?_;refine ph ?_;refine aB rfl (λK hK=>?_);go_simp;refine(aN.o _ _ _ _ _ _ _ (D.on bv.o (Fr.ext Mo.drew)) f.o).mono ?_;exact Ao
  .simp only[if_true] at *;have aK:=ae (show ((((((pre++(⟨#[118,97,114,32]⟩:ByteArray))++nm)++(⟨#[32,61,32]⟩:ByteArray))++strOf (bY e))++(⟨#[59]⟩:ByteArray))++(⟨#[10]⟩:ByteArray))=strOf (iV t (b.list.take (k+1))) by
    rw[i.o,y.o,<-aa.o];rw[show (⟨#[118,97,114,32]⟩:ByteArray)=strOf [118,97,114,32] from rfl];rw[show (⟨#[32,61,32]⟩:ByteArray)=strOf [32,61,32] from rfl];rw[show (⟨#[59]⟩:ByteArray)=strOf [59] from rfl];rw[show (⟨#[10]⟩:ByteArray)=strOf [10] from rfl];conv=>lhs;rw[<-dk nm]
    rw[ah,ah,ah,ah,ah,ah,ah];simp[dF])
   go_wp2;refine eJ (λ_=>False) [(0,3),(1,3),(2,3),(3,0),(4,3),(5,3),(6,3),(7,0),(8,1),(9,3),(10,3),(11,3)] ?_;refine pf ?_;refine bs (v:=?_) rfl (by rfl) (λV=>?_) ?_;rotate_left
   .go_simp;exact ez
   try simp only[PU]
   refine pf ?_;refine ph ?_;refine bs (v:=?_) rfl (by rfl) (λV=>?_) ?_;rotate_left
   .go_simp;exact ez
   try simp only[PU]
   refine bs (v:=?_) rfl (by rfl) (λV=>?_) ?_;rotate_left
   .go_simp;exact ez
   try simp only[PU]
   refine pf ?_;refine ph ?_;refine aB rfl (λK hK=>?_);go_simp;refine(aN.o _ _ _ _ _ _ _ (D.on bv.o (Fr.ext Mo.drew)) f.o).mono ?_
   exact BP
 | call g nm aW=>
  have aN:=ae (sN aW az.args);have cA:(h3 aW).length<=262144:=by have:=S.o;simp[dF] at this;omega
  have f:=ae cA;have c8:n1<=1000:=by have ac:=Q.1;have ap:=az.ja;simp[aD.args] at ac ap;omega
  have Y:=ae c8;have cb:(strOf (h3 aW)).size<=262144:=by rw[aP];exact cA
  have z:nm.size<=262144:=by have:=S.o;simp[dF] at this;have ap:nm.size=nm.data.toList.length:=rfl;simp at ap;omega
  clear cA c8;simp only[aD.kind,aD.name] at *;cases g
  .simp only[Mm,if_false] at *;have aK:=ae (show ((((pre++nm)++strOf (h3 aW))++(⟨#[59]⟩:ByteArray))++(⟨#[10]⟩:ByteArray))=strOf (iV t (b.list.take (k+1))) by
    rw[i.o,y.o,<-aa.o];rw[show (⟨#[59]⟩:ByteArray)=strOf [59] from rfl];rw[show (⟨#[10]⟩:ByteArray)=strOf [10] from rfl];conv=>lhs;rw[<-dk nm]
    rw[ah,ah,ah,ah,ah];simp[dF])
   go_wp2;refine eJ (λ_=>False) [(0,3),(1,3),(2,0),(3,3),(4,3),(5,0),(6,1),(7,3),(8,3),(9,3)] ?_
   iterate 2 refine pf ?_
   exact B4
  .simp only[if_true] at *;have aK:=ae (show (((((pre++(⟨#[103,111,32]⟩:ByteArray))++nm)++strOf (h3 aW))++(⟨#[59]⟩:ByteArray))++(⟨#[10]⟩:ByteArray))=strOf (iV t (b.list.take (k+1))) by
    rw[i.o,y.o,<-aa.o];rw[show (⟨#[103,111,32]⟩:ByteArray)=strOf [103,111,32] from rfl];rw[show (⟨#[59]⟩:ByteArray)=strOf [59] from rfl];rw[show (⟨#[10]⟩:ByteArray)=strOf [10] from rfl];conv=>lhs;rw[<-dk nm]
    rw[ah,ah,ah,ah,ah,ah];simp[dF])
   go_wp2;refine eJ (λ_=>False) [(0,3),(1,3),(2,3),(3,0),(4,3),(5,3),(6,0),(7,1),(8,3),(9,3),(10,3)] ?_;refine pf ?_;refine bs (v:=?_) rfl (by rfl) (λV=>?_) ?_;rotate_left
   .go_simp;exact ez
   try simp only[PU]
   refine pf ?_
   exact B4
 | lock u r=>
  have aN:=ae (kS r (az.ref r rfl));have cA:(gi r).length<=262144:=by have:=S.o;simp[dF] at this;omega
  have f:=ae cA;have cb:(strOf (gi r)).size<=262144:=by rw[aP];exact cA
  clear cA;simp only[aD.kind,aD.name] at *;cases u
  .simp only[Mm,if_false] at *;have aK:=ae (show ((((pre++(⟨#[108,111,99,107,32]⟩:ByteArray))++strOf (gi r))++(⟨#[59]⟩:ByteArray))++(⟨#[10]⟩:ByteArray))=strOf (iV t (b.list.take (k+1))) by
    rw[i.o,y.o,<-aa.o];rw[show (⟨#[108,111,99,107,32]⟩:ByteArray)=strOf [108,111,99,107,32] from rfl];rw[show (⟨#[59]⟩:ByteArray)=strOf [59] from rfl];rw[show (⟨#[10]⟩:ByteArray)=strOf [10] from rfl];rw[ah,ah,ah,ah,ah];simp[dF])
   exact BX
  .simp only[if_true] at *;have aK:=ae (show ((((pre++(⟨#[117,110,108,111,99,107,32]⟩:ByteArray))++strOf (gi r))++(⟨#[59]⟩:ByteArray))++(⟨#[10]⟩:ByteArray))=strOf (iV t (b.list.take (k+1))) by
    rw[i.o,y.o,<-aa.o];rw[show (⟨#[117,110,108,111,99,107,32]⟩:ByteArray)=strOf [117,110,108,111,99,107,32] from rfl];rw[show (⟨#[59]⟩:ByteArray)=strOf [59] from rfl];rw[show (⟨#[10]⟩:ByteArray)=strOf [10] from rfl];rw[ah,ah,ah,ah,ah];simp[dF])
   exact BX
 | gI e th=>
  obtain⟨N,d,hx⟩:=az.expr e rfl;have aN:=ae (jQ N d e hx);have cA:(bY e).length<=262144:=by have:=S.o;simp[dF] at this;omega
  have bE:(cI (t+1) th).length<=262144:=by have:=S.o;simp[dF] at this;unfold cI;omega
  obtain⟨f,H⟩:=aJ cA bE;have cb:(strOf (bY e)).size<=262144:=by rw[aP];exact cA
  have z:(strOf (cI (t+1) th)).size<=262144:=by rw[aP];exact bE
  have q:=ae (show T++⟨#[9]⟩=strOf (List.replicate (t+1) 9) by rw[<-aa.o,show (⟨#[9]⟩:ByteArray)=strOf [9] from rfl,ah,List.replicate_succ']);have J:=ae (show t+1+th.num<=1000000 by
   have ac:=R.o;have ap:=fa b;have aV:=b6.o;rcases az.IF with h|h
   .simp only[aD.th] at h;omega
   .simp only[aD.th] at h;subst h;simp only[ao.num];omega)
  clear cA hx bE;simp only[aD.kind,aD.name] at *;obtain rfl:n3=0:=by have:=bp.1;simpa[aD.el,dc] using this.symm
  have aK:=ae (show (((((((pre++(⟨#[119,104,105,108,101,32]⟩:ByteArray))++strOf (bY e))++(⟨#[32,123,10]⟩:ByteArray))++strOf (cI (t+1) th))++T)++(⟨#[125]⟩:ByteArray))++(⟨#[10]⟩:ByteArray))=strOf (iV t (b.list.take (k+1))) by
   rw[i.o,y.o,<-aa.o];rw[show (⟨#[119,104,105,108,101,32]⟩:ByteArray)=strOf [119,104,105,108,101,32] from rfl];rw[show (⟨#[32,123,10]⟩:ByteArray)=strOf [32,123,10] from rfl];rw[show (⟨#[125]⟩:ByteArray)=strOf [125] from rfl];rw[show (⟨#[10]⟩:ByteArray)=strOf [10] from rfl];rw[ah,ah,ah,ah,ah,ah,ah,ah];simp[dF,cI])
  exact BO
 | ite e th el=>
  obtain⟨N,d,hx⟩:=az.expr e rfl;have aN:=ae (jQ N d e hx);have cA:(bY e).length<=262144:=by have:=S.o;simp[dF] at this;omega
  have bE:(cI (t+1) th).length<=262144:=by have:=S.o;simp[dF] at this;unfold cI;omega
  obtain⟨f,H⟩:=aJ cA bE;have cb:(strOf (bY e)).size<=262144:=by rw[aP];exact cA
  have z:(strOf (cI (t+1) th)).size<=262144:=by rw[aP];exact bE
  have q:=ae (show T++⟨#[9]⟩=strOf (List.replicate (t+1) 9) by rw[<-aa.o,show (⟨#[9]⟩:ByteArray)=strOf [9] from rfl,ah,List.replicate_succ']);have J:=ae (show t+1+th.num<=1000000 by
   have ac:=R.o;have ap:=fa b;have aV:=b6.o;rcases az.IF with h|h
   .simp only[aD.th] at h;omega
   .simp only[aD.th] at h;subst h;simp only[ao.num];omega)
  clear cA hx bE;simp only[aD.kind,aD.name] at *;have x:=ae bp.1;by_cases dL:n3=0
  .subst dL;have j:=ae (show el.isNil=true by have ac:=x.o;simp only[aD.el,cK,LO] at ac;cases el<;>first|rfl|simp[ao.list] at ac);have aK:=ae (show (((((((pre++(⟨#[105,102,32]⟩:ByteArray))++strOf (bY e))++(⟨#[32,123,10]⟩:ByteArray))++strOf (cI (t+1) th))++T)++(⟨#[125]⟩:ByteArray))++(⟨#[10]⟩:ByteArray))=strOf (iV t (b.list.take (k+1))) by
    rw[i.o,y.o,<-aa.o];rw[show (⟨#[105,102,32]⟩:ByteArray)=strOf [105,102,32] from rfl];rw[show (⟨#[32,123,10]⟩:ByteArray)=strOf [32,123,10] from rfl];rw[show (⟨#[125]⟩:ByteArray)=strOf [125] from rfl];rw[show (⟨#[10]⟩:ByteArray)=strOf [10] from rfl];rw[ah,ah,ah,ah,ah,ah,ah,ah];simp[dF,cI,j.o])
   exact BO
  .have j:=ae (show el.isNil=false by have ac:=x.o;simp only[aD.el,cK,LO] at ac;cases el<;>first|rfl|(simp[ao.list] at ac;omega));have bc:(cI (t+1) el).length<=262144:=by have:=S.o;simp[dF,j.o] at this;unfold cI;omega
   have L:=ae bc;have ab:(strOf (cI (t+1) el)).size<=262144:=by rw[aP];exact bc
   have bz:=ae (show t+1+el.num<=1000000 by
    have ac:=R.o;have ap:=fa b;have aV:=b6.o;rcases az.IE with h|h
    .simp only[aD.el] at h;omega
    .simp only[aD.el] at h;subst h;simp only[ao.num];omega)
   have cB:0<n3:=ad;clear bc;have aK:=ae (show (((((((((((pre++(⟨#[105,102,32]⟩:ByteArray))++strOf (bY e))++(⟨#[32,123,10]⟩:ByteArray))++strOf (cI (t+1) th))++T)++(⟨#[125]⟩:ByteArray))++(⟨#[32,101,108,115,101,32,123,10]⟩:ByteArray))++strOf (cI (t+1) el))++T)++(⟨#[125]⟩:ByteArray))++(⟨#[10]⟩:ByteArray))=strOf (iV t (b.list.take (k+1))) by
    rw[i.o,y.o,<-aa.o];rw[show (⟨#[105,102,32]⟩:ByteArray)=strOf [105,102,32] from rfl];rw[show (⟨#[32,123,10]⟩:ByteArray)=strOf [32,123,10] from rfl];rw[show (⟨#[125]⟩:ByteArray)=strOf [125] from rfl];rw[show (⟨#[32,101,108,115,101,32,123,10]⟩:ByteArray)=strOf [32,101,108,115,101,32,123,10] from rfl];rw[show (⟨#[10]⟩:ByteArray)=strOf [10] from rfl];rw[ah,ah,ah,ah,ah,ah,ah,ah,ah,ah,ah,ah];simp[dF,cI,j.o])
   go_wp2;refine eJ (λ_=>False) [(0,3),(1,3),(2,3),(3,3),(4,0),(8,3),(9,0),(10,3),(11,3),(14,3),(5,1),(6,3),(7,3),(12,2),(13,3),(15,3),(16,3),(17,3)] ?_
   iterate 2 refine pf ?_
   refine bs (v:=?_) rfl (by rfl) (λV=>?_) ?_;rotate_left
   .go_simp;exact ez
   try simp only[PU]
   refine pf ?_;refine ph ?_;refine pf ?_;refine ph ?_;refine pf ?_;refine bs (v:=?_) rfl (by rfl) (λV=>?_) ?_;rotate_left
   .go_simp;exact ez
   try simp only[PU]
   refine pf ?_;refine aB rfl (λK hK=>?_);go_simp;refine(aN.o _ _ _ _ _ _ _ (D.on bv.o (Fr.ext Mo.drew)) f.o).mono ?_;rintro e aS ⟨rfl,ar⟩;refine dq hK (ar) ?_;clear hK K;refine bs (v:=?_) rfl (by rfl) (λV=>?_) ?_;rotate_left
   .go_simp;exact ez
   try simp only[PU]
   refine bs (v:=?_) rfl (by rfl) (λV=>?_) ?_;rotate_left
   .go_simp;exact ez
   try simp only[PU]
   refine ax rfl (λK hK=>?_);go_simp;rw[q.o];refine((show hJ th from az.th) (t+1) A2 n2 c2 _ J.o (ag.on (Fr.ext (Fr.aG ar))) H.o).mono ?_;rintro e aT ⟨rfl,bJ⟩;refine dX hK ?_;clear hK K;refine bs (v:=?_) rfl (by rfl) (λV=>?_) ?_;rotate_left
   .go_simp;exact ez
   try simp only[PU]
   refine bs (v:=?_) rfl (by rfl) (λV=>?_) ?_;rotate_left
   .go_simp;exact ez
   try simp only[PU]
   refine bs (v:=?_) rfl (by rfl) (λV=>?_) ?_;rotate_left
   .go_simp;exact ez
   try simp only[PU]
   refine pf ?_;refine aF ?_;have bB:=ae ((Fr.aG ar).trans bJ);obtain⟨v0,ak⟩:=Fr.qO bB.o;clear ar bJ;have c9:decide ((n3:Int) > 0)=true:=by simp;omega
   go_wp2_with(fail);rw[q.o];refine((show hJ el from az.el) (t+1) cC n3 c3 _ bz.o (bp.on (Fr.ext bB.o)) L.o).mono ?_;rintro e b7 ⟨rfl,bK⟩;have a8:=ae (bB.trans bK);clear bK;go_wp2;go_roundw
   case rel=>exact⟨k+1,ad,by go_num,by rw[<-aK.o],br.trans (P.trans a8.o)⟩
   case measure=>exact aH
 | ret=>
  simp only[aD.kind,aD.name] at *;have aK:=ae (show ((pre++(⟨#[114,101,116,117,114,110,59]⟩:ByteArray))++(⟨#[10]⟩:ByteArray))=strOf (iV t (b.list.take (k+1))) by
   rw[i.o,y.o,<-aa.o];rw[show (⟨#[114,101,116,117,114,110,59]⟩:ByteArray)=strOf [114,101,116,117,114,110,59] from rfl];rw[show (⟨#[10]⟩:ByteArray)=strOf [10] from rfl];rw[ah,ah,ah];simp[dF])
  have bB:=ae (Fr.refl (λ_=>False) W);exact xJ
 ):p:=h
end Df
open Df in
theorem wD(b:ao)(M:∀s∈b.list,vp s b.num):hJ b:=by
 intro t A n c w ud hs hlen;have hl:b.list.length=n:=by rw[<-hs.1,cK,LO]
 have hn:n<=1000000:=by have:=fa b;omega
 have G:t<=1000000:=ad;have Z:(strOf (List.replicate t 9)).size<=1000000:=by rw[aP,List.length_replicate];exact G
 rw[cK] at hs;rw[e6] at hlen ⊢;obtain⟨b6,bt,al⟩:=ef hl hs M;have F:=ae (show (iV t b.list).length<=262144 from hlen);have R:=ae ud;have U:=ae (show iV t (b.list.take n)=(b.list.map (dF t)).flatten by rw[<-hl,List.take_length];rfl);clear hs M hlen hl ud G;generalize hT:strOf (List.replicate t 9)=T at *;have aa:=ae hT;clear hT;go_enter func117,ntmps117;go_wp2;go_loopw [5,6] (λsv bH wr=>∃k:Nat,k<=n/\bH=.int .i64 k/\sv=.string (strOf (iV t (b.list.take k)))/\Ext w wr) (λ_ bH _=>n - (intOf bH).toNat)
 case atStart=>exact⟨0,ad,rfl,rfl,Mo⟩
 case round=>
  obtain⟨k,aj,rfl,rfl,aw⟩:=hrel;have br:=ae aw;clear aw;have aL:(strOf (iV t (b.list.take k))).size<=262144:=by
   rw[aP];exact L6 (xR t _ k) F.o
  by_cases an:k<n
  .obtain⟨bb,o,s,cs,rfl,O,cz,dQ,bh,a4⟩:=(bt.on (Fr.ext br.o)).hf nu an;have a1:bb<wr:=O;have i:=ae (yA (t:=t) cz);have az:=ae (al.o s (LN cz));have m:(dF t s).length<=262144:=by
    have ac:=xR t b.list (k+1);rw[i.o] at ac;have ap:=F.o;simp at ac;omega
   have S:=ae m;obtain⟨eo,en,es,EA,em,ec,rs,cM,di,rc,cR,n1,c1,A2,n2,c2,cC,n3,c3,rfl,I⟩:=lx dQ;exact vD
  .obtain rfl:k=n:=ad;go_wp2;go_ret;exact⟨ret_str (by rw[U.o]),br.o⟩
end Go.Proofs.YtpkfopfkdgkfkaaGreat
