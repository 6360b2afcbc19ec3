/- Part 29 of the proof. No condition of its own. -/
import Derived.Test.YtflecliffjbleaaGreatS28
namespace Go.Proofs.YtflecliffjbleaaGreat
open Go.RowKit Go.Proofs.Tryz
set_option maxRecDepth 1000000
set_option maxHeartbeats 25600000
set_option linter.unusedVariables false
variable{cs:List Value}{P:Nat->Prop}{r:eW}
structure zO(w:World)(g:Nat)(F:List aG):Prop where
 lt:g<w.heap.size
 ex:∃A n c,n<=1000000/\w.cell? ⟨g,2,none⟩=some (.slice A n c)/\Sl w (av w) A n (F.map dy)
theorem zO.on{w ab:World}{g:Nat}{F:List aG}(h:zO w g F)(O:Ext w ab):zO ab g F:=by
 exact DK
theorem lh{w:World}{f:aG}:(dy f).rep w P cs↔∃A n c B m k,cs=[.string f.name,.slice A n c,.slice B m k]/\n<=c/\m<=k/\Sl w P A n (f.params.map cz)/\Sl w P B m (c7 f.body):=by
 unfold dy;rw[bJ,ct];constructor
 .rintro⟨y,rfl,h⟩;obtain⟨A,n,c,cn,rfl,hc,hs,h⟩:=aL.1 h;obtain⟨B,m,k,cm,rfl,aj,O,h⟩:=aL.1 h;rw[aQ] at h;subst h;exact⟨A,n,c,B,m,k,rfl,hc,aj,hs,O⟩
 .rintro⟨A,n,c,B,m,k,rfl,hc,aj,hs,O⟩;exact⟨_,rfl,aL.2 ⟨A,n,c,_,rfl,hc,hs,aL.2 ⟨B,m,k,[],rfl,aj,O,aQ.2 rfl⟩⟩⟩
theorem nH(f:aG):(dy f).sz=3:=rfl
theorem rT(q:ByteArray×Bool):(cz q).sz=2:=rfl
theorem ou{w:World}{q:ByteArray×Bool}:(cz q).rep w P cs↔cs=[.string q.1,.bool q.2]:=by
 unfold cz;rw[bJ,ct];constructor
 .rintro⟨y,rfl,h⟩;obtain⟨cm,rfl,ax⟩:=fB.1 h;rw[aQ] at ax;subst ax;rfl
 .rintro rfl;exact⟨_,rfl,fB.2 ⟨_,rfl,aQ.2 rfl⟩⟩
theorem H2:cm prog 59 58 (.agg #[.bool false,.int .i64 0,.slice none 0 0]) 3 40:=cm.mk' Tryz.underlying59 (by kernel_rfl) rfl ad
abbrev fG(op t:Int)(g:Bool)(IA:Mk)(i ic:Nat)(bB:Mk)(k lc:Nat):Array Value:=
 #[.int .i64 op,.int .i64 t,.bool g,.int .i64 0,.int .i64 0,.string ⟨#[]⟩,.slice none 0 0,.bool false,.int .i64 0,.slice none 0 0,.slice IA i ic,.slice bB k lc]
theorem D6{w:World}(h:(eO (.mx r)).rep w P cs):∃s A n c A2 c2,cs=[.bool true,.string s,.slice A n c,.int .i64 0,.int .i64 0,.string ⟨#[]⟩,.slice A2 0 c2]/\(kL r).rep w P [.string s,.slice A n c]:=by
 exact Hf
namespace CN
theorem vV{p:Prop}(h:p:=by
 obtain⟨A,n,c,cy,rfl,_,_,aG⟩:=aL.1 hx;rw[aQ] at aG;subst aG;rw[D.bw] at bb;obtain⟨A2,cY,c2,rfl,_,_⟩:=aX.1 bb;exact⟨_,_,_,_,_,_,_,_,_,rfl,bb⟩
 ):p:=h
end CN
open CN in
theorem D4{w:World}{e:VE}(h:(eO (.ex e)).rep w P cs):∃cc bZ rc op n s A m c,cs=[.bool false,.string ⟨#[]⟩,.slice cc bZ rc,.int .i64 op,.int .i64 n,.string s,.slice A m c]/\(bk e).rep w P [.int .i64 op,.int .i64 n,.string s,.slice A m c]:=by
 exact vU
theorem qR{w:World}{l:List D}(h:D.aO w P l cs):D.aO w P (jX::l) (.int .i64 0::.int .i64 0::.string ⟨#[]⟩::.slice none 0 0::cs):=
 dG.2 ⟨[.int .i64 0,.int .i64 0,.string ⟨#[]⟩,.slice none 0 0],cs,rfl,fv.2 ⟨none,0,rfl⟩,h⟩
theorem oI{w:World}{l:List D}(h:D.aO w P l cs):D.aO w P (ds ko::l) (.bool false::.int .i64 0::.slice none 0 0::cs):=
 dG.2 ⟨[.bool false,.int .i64 0,.slice none 0 0],cs,rfl,dZ.2 ⟨none,0,0,rfl,Lz _,Sl.bT _⟩,h⟩
theorem jF{w:World}{op t:Int}{g:Bool}{is:List VE}{ps:List bP}{IA:Mk}{i ic:Nat}{bB:Mk}{k lc:Nat}(ac:Sl w P IA i (is.map bk))(ax:Sl w P bB k (ps.map ds))(c1:i<=ic)(c2:k<=lc):
  (ep ⟨op,t,g,none,ko,is,ps⟩).rep w P (fG op t g IA i ic bB k lc).toList:=by
 unfold ep;rw[bJ];exact bf.2 ⟨_,rfl,bf.2 ⟨_,rfl,fB.2 ⟨_,rfl,qR (oI (aL.2 ⟨IA,i,ic,_,rfl,c1,ac,aL.2 ⟨bB,k,lc,[],rfl,c2,ax,aQ.2 rfl⟩⟩))⟩⟩⟩
theorem v7:cm prog 112 61 (.agg (fG 0 0 false none 0 0 none 0 0)) 12 168:=cm.mk' Tryz.underlying112 (by kernel_rfl) rfl ad
structure cN(w:World)(g B:Nat)(M:List bL)(F:List aG)(l:List dQ)(bB:Mk)(ln lc:Nat)(n:Int)(st:Nat)(code:List ay)(sites:List Int)(S:Mk)(br:Nat)(bE:Mk)(bw:Nat):Prop where
 blk:∃GA gn gc MA mn mc FA fn fc,ao w g 194 #[.slice GA gn gc,.slice MA mn mc,.slice FA fn fc,.slice bB ln lc,.int .i64 n,.int .i64 st,.int .i64 0,.int .i64 0,.slice S code.length br,.slice bE sites.length bw]/\mn<=1000000/\fn<=1000000/\
  Sl w (off (Ms g (.slice S code.length br) (.slice bE sites.length bw)) w) MA mn (M.map eC)/\Sl w (off (Ms g (.slice S code.length br) (.slice bE sites.length bw)) w) FA fn (F.map dy)
 base:g<B/\B<=w.heap.size
 names:ln<=1000000/\Sl w (off (Ms g (.slice S code.length br) (.slice bE sites.length bw)) w) bB ln (l.map bY)
 rows:lL B 61 12 3 1 w S code.length br (code.map ep) bE sites.length bw (sites.map D.i)
section
variable {w ab aP aW b4 cI X:World} {g B:Nat} {M:List bL} {F:List aG} {l:List dQ} {bB:Mk} {ln lc:Nat} {n:Int} {st:Nat} {code:List ay} {sites:List Int} {S:Mk} {br:Nat} {bE:Mk} {bw:Nat}
theorem cN.lt(h:cN w g B M F l bB ln lc n st code sites S br bE bw):g<w.heap.size:=by
 obtain⟨GA,gn,gc,MA,mn,mc,FA,fn,fc,aS,_⟩:=h.blk;exact aS.lt
theorem cN.L(h:cN w g B M F l bB ln lc n st code sites S br bE bw):tQ w g l:=by
 obtain⟨GA,gn,gc,MA,mn,mc,FA,fn,fc,aS,_⟩:=h.blk;exact⟨aS.lt,bB,ln,lc,h.names.1,aS.cell 3,h.names.2.mono λb O=>O.1⟩
theorem cN.M_(h:cN w g B M F l bB ln lc n st code sites S br bE bw):yG w g M:=by
 obtain⟨GA,gn,gc,MA,mn,mc,FA,fn,fc,aS,ac,ax,a1,aU⟩:=h.blk;exact⟨aS.lt,MA,mn,mc,ac,aS.cell 1,a1.mono λb O=>O.1⟩
theorem cN.F_(h:cN w g B M F l bB ln lc n st code sites S br bE bw):zO w g F:=by
 obtain⟨GA,gn,gc,MA,mn,mc,FA,fn,fc,aS,ac,ax,a1,aU⟩:=h.blk;exact⟨aS.lt,FA,fn,fc,ax,aS.cell 2,aU.mono λb O=>O.1⟩
theorem cN.aj(h:cN w g B M F l bB ln lc n st code sites S br bE bw)(he:Ext w ab):cN ab g B M F l bB ln lc n st code sites S br bE bw:=by
 obtain⟨GA,gn,gc,MA,mn,mc,FA,fn,fc,aS,ac,ax,a1,aU⟩:=h.blk;exact⟨⟨GA,gn,gc,MA,mn,mc,FA,fn,fc,aS.aj he,ac,ax,a1.cT (Mv.hv he),aU.cT (Mv.hv he)⟩,⟨h.base.1,LU h.base.2 he.size⟩,⟨h.names.1,h.names.2.cT (Mv.hv he)⟩,h.rows.aj he⟩
abbrev KD(B g:Nat)(cv sv:Value)(w:World):Nat->Prop:=λb=>B<=b/\off (Ms g cv sv) w b
theorem cN.added(h:cN w g B M F l bB ln lc n st code sites S br bE bw){x:ay}{s:Int}{Y an:Mk}{ag a1:Nat}(e1:Ext w aP)
  (ac:Gr (λb=>B<=b/\(Value.slice bE sites.length bw).ownBlock≠some b) B 61 12 aW Y (code.length+1) ag (code.map ep++[ep x])) (f1:Fr (λb=>(Value.slice S code.length br).ownBlock=some b) aP aW) (o1:dx aP S code.length br Y (code.length+1) ag)
  (e2:Ext aW b4) (ax:Gr (λb=>B<=b/\(Value.slice Y (code.length+1) ag).ownBlock≠some b) B 3 1 cI an (sites.length+1) a1 (sites.map D.i++[D.i s])) (f2:Fr (λb=>(Value.slice bE sites.length bw).ownBlock=some b) b4 cI) (fk:dx b4 bE sites.length bw an (sites.length+1) a1)
  (hX:(cI.setCell ⟨g,8,none⟩ (.slice Y (code.length+1) ag)).setCell ⟨g,9,none⟩ (.slice an (sites.length+1) a1)=X) :
  cN X g B M F l bB ln lc n st (code++[x]) (sites++[s]) Y ag an a1/\Mv g (.slice S code.length br) (.slice bE sites.length bw) w (.slice Y (code.length+1) ag) (.slice an (sites.length+1) a1) X:=by
 have ap:=h.lt;have b6:=FD hX;have s1:=e1.size;have s2:=f1.size;have cJ:=e2.size;have hM:Mv g (.slice S code.length br) (.slice bE sites.length bw) w (.slice Y (code.length+1) ag) (.slice an (sites.length+1) a1) X:=by
  refine⟨Fr.trans (Fr.mono e1 λ_ h=>h.elim) (Fr.trans (f1.mono λb O=>.inr (.inl O)) (Fr.trans (Fr.mono e2 λ_ h=>h.elim) (Fr.trans (f2.mono λb O=>.inr (.inr O)) (b6.mono λb O=>.inl O)))),λb O hm=>?_⟩;rcases hm with hm|hm|hm
  .exact .inl hm
  .rcases o1 b hm with ac|ac
   .exact .inr (.inl ac)
   .omega
  .rcases fk b hm with ac|ac
   .exact .inr (.inr ac)
   .omega
 refine⟨?_,hM⟩;obtain⟨GA,gn,gc,MA,mn,mc,FA,fn,fc,aS,cv,bR,cR,H⟩:=h.blk;have a:∀b,(Value.slice S code.length br).ownBlock=some b->g<b:=λb O=>LC h.base.1 (h.rows.one.lt O).1;have Z:∀b,(Value.slice bE sites.length bw).ownBlock=some b->g<b:=λb O=>LC h.base.1 (h.rows.two.lt O).1;have bQ:ao cI g _ _:=(((aS.aj e1).on f1 λO=>by have:=a _ O;omega).aj e2).on f2 λO=>by have:=Z _ O;omega
 have bk:lL B 61 12 3 1 b4 Y (code.length+1) ag (code.map ep++[ep x]) bE sites.length bw (sites.map D.i):=((h.rows.aj e1).grow ac f1 o1).aj e2;have z:=(bk.swap.grow ax f2 fk).swap;refine⟨⟨GA,gn,gc,MA,mn,mc,FA,fn,fc,?_,cv,bR,?_,?_⟩,⟨h.base.1,LU h.base.2 hM.fr.size⟩,⟨h.names.1,?_⟩,?_⟩
 .rw[<-hX,LD,LD];exact(bQ.aJ 8 _).aJ 9 _
 .rw[LD,LD];exact cR.cT hM
 .rw[LD,LD];exact H.cT hM
 .rw[LD,LD];exact h.names.2.cT hM
 .rw[LJ,LJ,LD,LD];exact z.cS b6 λb O _=>by have:=h.base.1;omega
end
def HP(w:World)(g B:Nat)(M:List bL)(F:List aG)(l:List dQ)(bB:Mk)(ln lc:Nat)(n:Int)(st:Nat)(code:List ay)(sites:List Int)(S:Mk)(br:Nat)(bE:Mk)(bw:Nat)(x:ay)(s:Int)(e:Ending)(ab:World):Prop:=
 e=.returned (.int .i64 code.length)/\∃Y ag an a1,cN ab g B M F l bB ln lc n st (code++[x]) (sites++[s]) Y ag an a1/\Mv g (.slice S code.length br) (.slice bE sites.length bw) w (.slice Y (code.length+1) ag) (.slice an (sites.length+1) a1) ab
theorem hb{w:World}{g B:Nat}{M:List bL}{F:List aG}{l:List dQ}{bB:Mk}{ln lc:Nat}{n:Int}{st:Nat}{code:List ay}{sites:List Int}{S:Mk}{br:Nat}{bE:Mk}{bw:Nat}(h:cN w g B M F l bB ln lc n st code sites S br bE bw)
  (x:ay) (s:Int) {op t:Int} {gl:Bool} {eo en:Int} {es:ByteArray} {EA:Mk} {em ec:Nat} {pb:Bool} {pi:Int} {PA:Mk} {pm pc:Nat} {IA:Mk} {i ic:Nat} {KA:Mk} {k kc:Nat}
  (hx:(ep x).rep w (KD B g (.slice S code.length br) (.slice bE sites.length bw) w) [.int .i64 op,.int .i64 t,.bool gl,.int .i64 eo,.int .i64 en,.string es,.slice EA em ec,.bool pb,.int .i64 pi,.slice PA pm pc,.slice IA i ic,.slice KA k kc])
  (ac:code.length<=100000) (ax:sites.length<=100000) :
  Calls prog 112 #[.pointer (some ⟨g,0,none⟩),.agg #[.int .i64 op,.int .i64 t,.bool gl,.int .i64 eo,.int .i64 en,.string es,.slice EA em ec,.bool pb,.int .i64 pi,.slice PA pm pc,.slice IA i ic,.slice KA k kc],.int .i64 s] w
   (HP w g B M F l bB ln lc n st code sites S br bE bw x s):=by
 obtain⟨H,aR⟩:=aH h hx;obtain⟨GA,gn,gc,MA,mn,mc,FA,fn,fc,aS,_⟩:=h.blk;have bH:=ae aS;clear h hx aS;go_enter func112,ntmps112;go_upto_region 1 with(fail);generalize bd:World.alloc _ _=W;have aF:=aZ bd;have bV:=aN bd;clear bd;obtain⟨bj,dO⟩:=aH aF bV;obtain⟨a0,ak,af⟩:=bV.two;obtain⟨a8,am,aJ⟩:=(bH.aj aF).two;have dX:=bH.lt;have ns:=aF.size;have dt:=H.base.1;have m:=H.base.2;clear aF bV;have ba:¬(Value.slice S code.length br).ownBlock=some g:=λO=>by have:=(H.rows.one.lt O).1;omega
 have aj:¬(Value.slice S code.length br).ownBlock=some w.heap.size:=λO=>by have:=(H.rows.one.lt O).2;omega
 have aY:∀b,(Value.slice S code.length br).ownBlock=some b->b<W.heap.size:=λb O=>by have:=(H.rows.one.lt O).2;omega
 have y:∀b,(Value.slice bE sites.length bw).ownBlock=some b->b<W.heap.size:=λb O=>by have:=(H.rows.two.lt O).2;omega
 have u:(ep x).rep W (ly (λb=>B<=b/\(Value.slice bE sites.length bw).ownBlock≠some b) W (.slice S code.length br)) _:=
  D.aK (λb O=>⟨⟨O.1,λhc=>O.2.2 (.inr (.inr hc))⟩,LC O.2.1 ns,λhc=>O.2.2 (.inr (.inl hc))⟩) _ _ (D.aP (λb O=>bj.block b O.2.1 λh=>h) _ _ aR.o)
 have o:=H.rows.aj bj.o;obtain⟨j,aM⟩:=aH u o;clear u o;refine tw (λb=>(Value.slice S code.length br).ownBlock=some b) [15,18,21] (.free 0 (.free 1 (.free 2 (.free 3 (.free 4 (.held 5 (.held 6 (.free 9 (.free 10 (.free 11 (.held 12 (.free 13 (.pick [7,14] (λi=>bif i == 7 then .pick [8,14] (λi=>bif i == 8 then .pick [14] (λ_=>.pick [15] (λ_=>.free 16 (.free 17 (.pick [18] (λ_=>.free 19 (.free 20 (.pick [21] (λ_=>.stop)))))))) else .pick [8] (λ_=>.pick [15] (λ_=>.free 16 (.free 17 (.pick [18] (λ_=>.free 19 (.free 20 (.pick [21] (λ_=>.stop))))))))) else .pick [7] (λ_=>.pick [8] (λ_=>.pick [15] (λ_=>.free 16 (.free 17 (.pick [18] (λ_=>.free 19 (.free 20 (.pick [21] (λ_=>.stop))))))))))))))))))))))) ?_
 iterate 5 refine tf ?_
 iterate 2 refine oV ?_
 iterate 3 refine tf ?_
 refine oV ?_;refine tf ?_;refine iW (P:=?P1) (ops:=?o1) (Q:=?q1) (R:=?r1) (tails:=?t1) (rest:=.pick [15] (λ_=>.free 16 (.free 17 (.pick [18] (λ_=>.free 19 (.free 20 (.pick [21] (λ_=>.stop)))))))) (aa:=?Lk)
  (C:=λ(_:Nat) b3 A2 c2 V=>True/\∃aP aW,Ext W aP/\Gr (λb=>B<=b/\(Value.slice bE sites.length bw).ownBlock≠some b) B 61 12 aW A2 (code.length+1) c2 (code.map ep++[ep x])/\Fr (λb=>(Value.slice S code.length br).ownBlock=some b) aP aW/\dx aP S code.length br A2 (code.length+1) c2/\Ext aW V/\ao V b3 3 #[.int .i64 s]) (λkey=>?Js) ?J5
 case Js=>
  refine a5 ?_ ?_
  ·
   refine eu ?_;generalize hV:World.drew (World.alloc _ _)=fh;have e1:=hh hV;have bO:ao fh W.heap.size 61 #[.int .i64 op,.int .i64 t,.bool gl,.int .i64 eo,.int .i64 en,.string es,.slice EA em ec,.bool pb,.int .i64 pi,.slice PA pm pc,.slice IA i ic,.slice KA k kc]:=hV▸Mh;clear hV;refine a5 ?_ ?_
   ·
    refine aD rfl (λK hK=>?_) rfl;rw[if_pos (by rfl)];refine fm v7 (.tmp 12) (.tmp 14) (by rfl) (aM.aj e1).one bO (wC j.o e1) (by rfl) (by rfl) (by rfl) ad ad (aB e1.size) ?_;intro Y ag aW ce f1 o1 c1;refine dP hK (f1) ?_;clear hK K;refine aq ?_;refine eu ?_;have F:True/\∃aP f,Ext W aP/\Gr (λb=>B<=b/\(Value.slice bE sites.length bw).ownBlock≠some b) B 61 12 f Y (code.length+1) ag (code.map ep++[ep x])/\Fr (λb=>(Value.slice S code.length br).ownBlock=some b) aP f/\dx aP S code.length br Y (code.length+1) ag/\Ext f (aW.alloc (.cells #[.int .i64 s] 3))/\ao (aW.alloc (.cells #[.int .i64 s] 3)) (aW.heap.size) 3 #[.int .i64 s]:=
     ⟨trivial,fh,aW,e1,ce,f1,o1,Mg.alloc _,Mh⟩
    clear ce o1;revert F;generalize aW.heap.size=b3;generalize W.heap.size=eW;intro F;exact key eW b3 Y ag _ F
   ·
    refine eu ?_;generalize hV:World.alloc _ _=T;have cb:ao T fh.heap.size 3 #[.int .i64 s]:=hV▸Mh;have aT:=by have:=bO.alloc (.cells #[.int .i64 s] 3);rw[hV] at this;exact this
    have e2:Ext W T:=hV▸e1.alloc _;clear hV bO;refine aq ?_;refine aD rfl (λK hK=>?_) rfl;rw[if_pos (by rfl)];refine fm v7 (.tmp 12) (.tmp 14) (by rfl) (aM.aj e2).one aT (wC j.o e2) (by rfl) (by rfl) (by rfl) ad ad (aB e2.size) ?_;intro Y ag aW ce f1 o1 c1;refine dP hK (f1) ?_;clear hK K;have bl:¬(Value.slice S code.length br).ownBlock=some fh.heap.size:=λO=>by have:=aY _ O;have:=e1.size;omega
    have F:True/\∃aP f,Ext W aP/\Gr (λb=>B<=b/\(Value.slice bE sites.length bw).ownBlock≠some b) B 61 12 f Y (code.length+1) ag (code.map ep++[ep x])/\Fr (λb=>(Value.slice S code.length br).ownBlock=some b) aP f/\dx aP S code.length br Y (code.length+1) ag/\Ext f aW/\ao aW (fh.heap.size) 3 #[.int .i64 s]:=
     ⟨trivial,T,aW,e2,ce,f1,o1,Mg,cb.on f1 bl⟩
    clear ce o1;revert F;generalize fh.heap.size=b3;generalize W.heap.size=eW;intro F;exact key eW b3 Y ag _ F
  ·
   refine eu ?_;generalize hV:World.drew (World.alloc _ _)=fh;have cb:ao fh W.heap.size 3 #[.int .i64 s]:=hV▸Mh;have e1:=hh hV;clear hV;refine aq ?_;refine eu ?_;generalize hV:World.alloc _ _=T;have e2:Ext W T:=hV▸e1.alloc _;have bO:=aN hV;have aV:ao T W.heap.size 3 #[.int .i64 s]:=hV▸cb.alloc _;clear hV;refine aq ?_;refine aD rfl (λK hK=>?_) rfl;rw[if_pos (by rfl)];refine fm v7 (.tmp 12) (.tmp 14) (by rfl) (aM.aj e2).one bO (wC j.o e2) (by rfl) (by rfl) (by rfl) ad ad (aB e2.size) ?_;intro Y ag aW ce f1 o1 c1;refine dP hK (f1) ?_;clear hK K;have bl:¬(Value.slice S code.length br).ownBlock=some W.heap.size:=λO=>by have:=aY _ O;omega
   have F:True/\∃aP f,Ext W aP/\Gr (λb=>B<=b/\(Value.slice bE sites.length bw).ownBlock≠some b) B 61 12 f Y (code.length+1) ag (code.map ep++[ep x])/\Fr (λb=>(Value.slice S code.length br).ownBlock=some b) aP f/\dx aP S code.length br Y (code.length+1) ag/\Ext f aW/\ao aW (W.heap.size) 3 #[.int .i64 s]:=
    ⟨trivial,T,aW,e2,ce,f1,o1,Mg,aV.on f1 bl⟩
   clear ce o1;revert F;generalize W.heap.size=b3;generalize fh.heap.size=eW;intro F;exact key eW b3 Y ag _ F
 case J5=>
  rintro eW b3 Y ag V ⟨v,aP,aW,e1,ce,f1,o1,e2,cb⟩;have s1:=e1.size;have s2:=f1.size;have cJ:=e2.size;have hG:lL B 61 12 3 1 V Y (code.length+1) ag (code.map ep++[ep x]) bE sites.length bw (sites.map D.i):=((aM.aj e1).grow ce f1 o1).aj e2;have b5:ao V g _ _:=(((bH.aj bj.o).aj e1).on f1 ba).aj e2;have r:¬(Value.slice bE sites.length bw).ownBlock=some g:=λO=>by have:=(H.rows.two.lt O).1;omega
  clear a0 ak af a8 am aJ;refine aq ?_;refine bN rfl (λK hK=>?_) rfl;rw[if_pos (by rfl)];refine fm cU (.tmp 19) (.tmp 21) (by rfl) hG.two cb (show (D.i s).rep V _ _ from by simp only[D.rep]) (by rfl) (by rfl) (by rfl) ad ad ad ?_;intro an a1 cI g2 f2 fk c2;have ca:=aA g2 f2 fk;have bQ:=b5.on f2 r;have cC:=cX e1 ce f1 o1 e2;clear g2 f2 fk b5 cb e1 ce f1 o1 e2 hG;obtain⟨a8,am,aJ⟩:=bQ.two;refine dU hK ?_;clear hK K
  iterate 2 refine tf ?_
  refine aq ?_;refine bN rfl (λK hK=>?_) rfl;go_simp;refine dU hK ?_;clear hK K
  iterate 2 refine tf ?_
  refine aq ?_;refine bN rfl (λK hK=>?_) rfl;go_simp;refine dU hK ?_;clear hK K;refine ck ?_;generalize hX:World.setCell _ _ _=X;obtain⟨e1,ce,f1,o1,e2⟩:=cC.o;obtain⟨hS,hM⟩:=cN.added H.o (bj.trans e1) ce f1 o1 e2 ca.1 ca.2.1 ca.2.2 hX;have bM:=ah hS hM;obtain⟨bc,cx,L,eq,go,ez,c5,f0,cY,bC,_⟩:=hS.blk;clear hX a8 am aJ bQ hS hM e1 ce f1 o1 e2;obtain⟨a8,am,aJ⟩:=bC.two;go_wp2;go_ret;refine⟨ret_int ?_,Y,ag,an,a1,?_⟩
  .simp
  .exact bM.o
def Fs(w:World)(x:ay)(e:Ending)(ab:World):Prop:=
 ∃(IA:Mk) (i ic:Nat) (bB:Mk) (k lc:Nat),e=.returned (.agg (fG x.op x.target x.du IA i ic bB k lc))/\(ep x).rep ab (fresh w ab) (fG x.op x.target x.du IA i ic bB k lc).toList/\Ext w ab
structure kC(w wr:World)(l:List dQ)(op aB:Int)(aH:Array Value)(aT:List dj)(k:Nat)(IA:Mk)(i ic:Nat)(bB:Mk)(j lc:Nat):Prop where
 ext:Ext w wr
 b4:ao wr w.heap.size 188 aH
 b6:ao wr (w.heap.size+1) 61 (fG 0 0 false none 0 0 none 0 0)
 b7:ao wr (w.heap.size+2) 61 (fG op aB false IA i ic bB j lc)
 g2:lL (w.heap.size+3) 56 4 58 3 wr IA i ic ((bS l (aT.take k)).map bk) bB j lc ((cB l (aT.take k)).map ds)
section
variable {w wr aP aW X:World} {l:List dQ} {op aB:Int} {aH:Array Value} {aT:List dj} {k:Nat} {IA:Mk} {i ic:Nat} {bB:Mk} {j lc:Nat}
theorem ow{own:Nat->Prop}{g:Nat}(h:Ext w wr)(he:Ext wr aP)(J:Fr own aP aW)(az:∀b,own b->w.heap.size<=b)(aY:w.heap.size<=g)(hX:Fr (λb=>b=g) aW X):Ext w X:=by
 have e1:Fr (λb=>w.heap.size<=b) w X:=Fr.trans (Fr.mono h λ_ h=>h.elim) (Fr.trans (Fr.mono he λ_ h=>h.elim) (Fr.trans (J.mono az) (hX.mono λb O=>by subst O;exact aY)));exact e1.low λ_ h=>h
theorem kC.place(h:kC w wr l op aB aH aT k IA i ic bB j lc)(he:Ext wr aP)(br:aT[k]?=some (.mx r)){dh:Mk}{di:Nat}
  (aY:Gr (λb=>w.heap.size+3<=b/\(Value.slice IA i ic).ownBlock≠some b) (w.heap.size+3) 58 3 aW dh (j+1) di ((cB l (aT.take k)).map ds++[ds (mA l r)]))
  (J:Fr (λb=>(Value.slice bB j lc).ownBlock=some b) aP aW) (bn:dx aP bB j lc dh (j+1) di) (hX:aW.setCell ⟨w.heap.size+2,11,none⟩ (.slice dh (j+1) di)=X) :
  kC w X l op aB aH aT (k+1) IA i ic dh (j+1) di:=by
 have b6:=cJ hX;have ap:∀b,(Value.slice bB j lc).ownBlock=some b->w.heap.size+3<=b:=λb O=>(h.g2.two.lt O).1;refine⟨ow h.ext he J (λb O=>by have:=ap b O;omega) ad b6,?_,?_,?_,?_⟩
 .exact((h.b4.aj he).on J λO=>by have:=ap _ O;omega).on b6 ad
 .exact((h.b6.aj he).on J λO=>by have:=ap _ O;omega).on b6 ad
 .rw[<-hX];exact((h.b7.aj he).on J λO=>by have:=ap _ O;omega).aJ 11 _
 .have e1:bS l (aT.take (k+1))=bS l (aT.take k):=by rw[aU br,(h9 l _ _).1];simp[bS]
  have e2:(cB l (aT.take (k+1))).map ds=(cB l (aT.take k)).map ds++[ds (mA l r)]:=by rw[aU br,(h9 l _ _).2];simp[cB]
  rw[e1,e2];exact(((h.g2.aj he).swap.grow aY J bn).swap).cS b6 λb O _=>ad
theorem kC.int(h:kC w wr l op aB aH aT k IA i ic bB j lc)(he:Ext wr aP){x:VE}(br:aT[k]?=some (.ex x)){aD:Mk}{cH:Nat}
  (aY:Gr (λb=>w.heap.size+3<=b/\(Value.slice bB j lc).ownBlock≠some b) (w.heap.size+3) 56 4 aW aD (i+1) cH ((bS l (aT.take k)).map bk++[bk (bK l x)]))
  (J:Fr (λb=>(Value.slice IA i ic).ownBlock=some b) aP aW) (bn:dx aP IA i ic aD (i+1) cH) (hX:aW.setCell ⟨w.heap.size+2,10,none⟩ (.slice aD (i+1) cH)=X) :
  kC w X l op aB aH aT (k+1) aD (i+1) cH bB j lc:=by
 have b6:=cJ hX;have ap:∀b,(Value.slice IA i ic).ownBlock=some b->w.heap.size+3<=b:=λb O=>(h.g2.one.lt O).1;refine⟨ow h.ext he J (λb O=>by have:=ap b O;omega) ad b6,?_,?_,?_,?_⟩
 .exact((h.b4.aj he).on J λO=>by have:=ap _ O;omega).on b6 ad
 .exact((h.b6.aj he).on J λO=>by have:=ap _ O;omega).on b6 ad
 .rw[<-hX];exact((h.b7.aj he).on J λO=>by have:=ap _ O;omega).aJ 10 _
 .have e1:cB l (aT.take (k+1))=cB l (aT.take k):=by rw[aU br,(h9 l _ _).2];simp[cB]
  have e2:(bS l (aT.take (k+1))).map bk=(bS l (aT.take k)).map bk++[bk (bK l x)]:=by rw[aU br,(h9 l _ _).1];simp[bS]
  rw[e1,e2];exact((h.g2.aj he).grow aY J bn).cS b6 λb O _=>ad
end
theorem uy{V aP:World}{d:D}{B:Nat}{A I:Mk}{n c aQ aD:Nat}(h:d.rep aP (fresh V aP) cs)(aS:B<=V.heap.size)(ac:∀b,(Value.slice A n c).ownBlock=some b->b<V.heap.size)(ax:∀b,(Value.slice I aQ aD).ownBlock=some b->b<V.heap.size):
  d.rep aP (ly (λb=>B<=b/\(Value.slice I aQ aD).ownBlock≠some b) aP (.slice A n c)) cs:=
 D.aK (λb O=>⟨⟨LU aS O.1,λhc=>by have:=ax b hc;have:=O.1;omega⟩,O.2,λhc=>by have:=ac b hc;have:=O.1;omega⟩) _ _ h
theorem DY(ef:vE)(g:Nat)(l:List dQ)(M:List bL)(F:List aG)(bF:Bool)(s:ByteArray)(aT:List dj)(v:dQ)(f:aG)(J:dD l s=some v)(aj:v.kind=3)(h0:0<=v.n)(hF:F[v.n.toNat]?=some f)(b8:jt M l f.params aT)(jf:f.params.length<=1000)
  (eo en:Int) (es:ByteArray) (EA:Mk) (em ec:Nat) (rs:ByteArray) (cc:Mk) (cU rc:Nat) (cp:Mk) (n1 c1:Nat) (A2:Mk) (n2 c2:Nat) (cD:Mk) (n3 c3:Nat) (st:Int)
  (w:World) (bw:tQ w g l) (hM:yG w g M) (ci:zO w g F) (hs:Sl w (av w) cp n1 (aT.map eO)) :
  Calls prog 135 #[.pointer (some ⟨g,0,none⟩),.agg #[.int .i64 (if bF then 4 else 3),.string s,.int .i64 eo,.int .i64 en,.string es,.slice EA em ec,.string rs,.slice cc cU rc,.slice cp n1 c1,.slice A2 n2 c2,.slice cD n3 c3],.int .i64 st] w
   (Fs w (lS bF v.n (bS l aT) (cB l aT))):=by
 have hlen:=l8 b8;have cP:aT.length=n1:=by rw[<-hs.1,LG]
 obtain⟨aR,bT,cz,b2,eV,cF,bM⟩:=DH b8 J hF bw hM ci hs;obtain⟨bi,cT,bI⟩:=v;simp only at aj h0 hF;subst aj;obtain⟨aB,rfl⟩:=LH h0;clear hs bw hM ci b8 J hF h0;obtain⟨op,co⟩:∃op:Int,op=if bF then 3 else 2:=⟨_,rfl⟩
 have hx:lS bF (aB:Int) (bS l aT) (cB l aT)=⟨op,aB,false,none,ko,bS l aT,cB l aT⟩:=by rw[co];rfl
 rw[hx];clear hx;obtain⟨bY,bD⟩:∃bY:Int,bY=if bF then 4 else 3:=⟨_,rfl⟩
 have cZ:(bY == 4)=bF:=by rw[bD];cases bF<;>rfl
 rw[<-bD];clear bD;go_enter func135,ntmps135;cases bF
 all_goals
  simp only[if_true,Me,if_false] at co;go_upto_region 4 with(fail);generalize bd:World.alloc _ _=W;have aF:=l3 bd;have bQ:=kr bd;have cE:=iC bd;have a9:ao W (w.heap.size+2) 61 (fG op 0 false none 0 0 none 0 0):=by rw[<-bd,co];exact ao.gA _ _ _ (by simp)
  clear bd co;obtain⟨bj,cg,b4,fE⟩:=jc aF bQ cE a9;obtain⟨aY,bB,ln,lc,dt,cN,y⟩:=b2.on aF;have cm:=ae y;obtain⟨a0,ak,af⟩:=bQ.two;clear aF bQ cE a9 y;refine tw (λ_=>False) [6,11] (.free 0 (.free 1 (.free 2 (.held 3 (.free 4 (.held 5 (.pick [6,10] (λi=>bif i == 6 then .free 7 (.free 8 (.free 9 (.pick [10] (λ_=>.pick [11] (λ_=>.free 12 (.stop)))))) else .pick [6] (λ_=>.free 7 (.free 8 (.free 9 (.pick [11] (λ_=>.free 12 (.stop)))))))))))))) ?_
  iterate 3 refine tf ?_
  refine th ?_;refine tf ?_;refine th ?_;refine lK (P:=?_) (ops:=?_) (Q:=?_) (R:=?_) (tails:=?_) (rest:=.pick [11] (λ_=>.free 12 (.stop))) (aa:=?_) (C:=λde V=>Ext W V/\ao V de 147 #[.string ⟨#[]⟩,.int .i64 0,.int .i64 0]/\W.heap.size<=de) (λkey=>?_) ?_
  rotate_left 6
  ·
   refine a5 ?_ ?_
   ·
    refine bN rfl (λK hK=>?_) rfl;go_simp;refine(eg bB ln lc l s W.drew (cm.on (Fr.ext Mg.drew)) dt).mono ?_;rintro e aP ⟨rfl,ar⟩;rw[bT.o];simp only[jg,rr];refine dU hK ?_;clear hK K
    iterate 3 refine tf ?_
    refine aq ?_;refine eu ?_;generalize hV:World.alloc _ _=V;have aS:=aN hV;have bo:Ext W V:=hV▸(Fr.aF ar).alloc _;have hle:=(Fr.aF ar).size;clear hV ar;generalize aP.heap.size=de at *;exact key de V ⟨bo,aS,hle⟩
   ·
    refine eu ?_;refine aq ?_;refine bN rfl (λK hK=>?_) rfl;go_simp;generalize hV:World.alloc _ _=V;have aS:=aN hV;have bo:=aZ hV;clear hV;refine(eg bB ln lc l s V.drew (cm.on (Fr.ext bo.drew)) dt).mono ?_;rintro e aP ⟨rfl,ar⟩;rw[bT.o];simp only[jg,rr];refine dU hK ?_;clear hK K
    iterate 3 refine tf ?_
    have cn:=aS.aj (Fr.aF ar);have aL:=bo.trans (Fr.aF ar);clear aS bo ar;exact key W.heap.size aP ⟨aL,cn,Lz _⟩
  ·
   rintro de V ⟨bo,b5,a6⟩;have cS:=fE.lt;obtain⟨a8,am,aJ⟩:=b5.two;clear a0 ak af cN;refine aq ?_;refine bN rfl (λK hK=>?_) rfl;go_simp;refine dU hK ?_;clear hK K;refine tf ?_;refine ck ?_;generalize hX:World.setCell _ _ _=X;obtain⟨bC,bz,_⟩:=qg b5 bo a6 hX;have a7:=ae (bj.trans bz);have a2:=ae (cg.aj bz);have u:=ae (b4.aj bz);have m:=fE.aj bz;have bm:=ae m;clear hX a8 am aJ b5 bo bz;obtain⟨a8,am,aJ⟩:=bC.two;obtain⟨a0,ak,af⟩:=m.two;clear m;go_upto_region 12 with(fail);generalize cq:World.setCell _ _ _=Y;have cx:=u.lt;have bJ:=cJ cq;have aX:ao Y (w.heap.size+2) 61 (fG op aB false none 0 0 none 0 0):=cq▸bm.aJ 1 _;have a3:Ext w Y:=(Fr.trans (a7.mono λ_ h=>h.elim) bJ).low (λb hm=>ad);have ag:=a2.on bJ ad;have aQ:=u.on bJ ad;obtain⟨ba,bh,bE,cb⟩:=jc a3 ag aQ aX;have bH:=bC.on bJ ad;obtain⟨cu,FA,fn,fc,bl,f3,bu⟩:=cF.o;have cj:F[aB]?=some f:=by have:=cz.o;simpa using this
   have aU:aB<fn:=by have ac:=(List.getElem?_eq_some_iff.1 cj).1;have ax:=bu.1;rw[LG] at ax;omega
   obtain⟨ch,dc,bg,cs,rfl,cA,al,b3,cK,aw⟩:=bu.g9 nH aU;rw[cj] at al;injection al with al;subst al;obtain⟨PA,pn,pc,fD,bn,bc,rfl,c9,cv,cl,_⟩:=lh.1 b3;replace f3:=(a3.cell cu (λh=>h)).trans f3
   have f4:=(a3.cell cA (λh=>h)).trans (aw 1 _ rfl);have U:=a3.size;have ct:ch<Y.heap.size:=LC cA U;have cy:g<Y.heap.size:=LC cu U;have gT:f.params.length=pn:=by rw[<-cl.1,LG]
   have gS:=ae cl;obtain⟨a8,am,aJ⟩:=bH.two;obtain⟨a0,ak,af⟩:=ag.two;obtain rfl:n1=pn:=ad;have bW:=ae (show kC w Y l op aB #[.int .i64 bY,.string s,.int .i64 eo,.int .i64 en,.string es,.slice EA em ec,.string rs,.slice cc cU rc,.slice cp n1 c1,.slice A2 n2 c2,.slice cD n3 c3] aT 0 none 0 0 none 0 0 from
    ⟨a3,ag,aQ,aX,lL.nil _ _ _ _ _ _⟩)
   clear cq bJ a3 aQ aX bC bu b3 cK aw cl cA a7 a2 u bm a6 ag bH ba bh bE cb;go_wp2;refine eK (λ_=>False) [(0,3),(1,3),(2,3),(3,3),(4,0),(5,3),(6,0),(7,3),(8,3),(9,0),(10,3)] ?_
   iterate 4 refine pf ?_
   refine ph ?_;refine pf ?_;refine ph ?_
   iterate 2 refine pf ?_
   refine ph ?_;refine pf ?_;refine aC ?_;clear a8 am aJ f3 f4 ct;go_wp2;clear a0 ak af;go_loopw [11] (λL wr=>∃(k:Nat) (IA:Mk) (i ic:Nat) (bB:Mk) (j lc:Nat),k<=n1/\L=.int .i64 k/\i<=k/\j<=k/\kC w wr l op aB #[.int .i64 bY,.string s,.int .i64 eo,.int .i64 en,.string es,.slice EA em ec,.string rs,.slice cc cU rc,.slice cp n1 c1,.slice A2 n2 c2,.slice cD n3 c3] aT k IA i ic bB j lc) (λL _=>n1 - (intOf L).toNat)
   case atStart=>exact⟨0,none,0,0,none,0,0,ad,rfl,Lz _,Lz _,⟨bW.ext.drew,bW.b4,bW.b6,bW.b7,bW.g2.aj Mg.drew⟩⟩
   case round=>
    obtain⟨k,IA,i,ic,bB,j,lc,aj,rfl,bP,z,hC⟩:=hrel;clear bW;have bW:=ae hC;obtain⟨a0,ak,af⟩:=hC.b4.two;by_cases ap:k<n1
    .obtain⟨ab,cV,a,cs,rfl,H,br,ah,bq,Z⟩:=(bM.on (Fr.ext hC.ext)).g9 s3 ap;obtain⟨pb,gW,q,cW,rfl,dT,bv,bx,be,b0⟩:=(gS.on (Fr.ext hC.ext)).g9 rT ap;obtain rfl:=ou.1 bx;have ai:=b0 1 _ rfl;have N:pb<wr.heap.size:=dT;have bR:ab<wr.heap.size:=H;have HA:=ae br;rcases nB aR.o bv br with⟨r,rfl,bG,eB⟩|⟨x,rfl,bG,cw⟩
     .rw[bG] at ai;obtain⟨bZ,cR,cM,cL,bX,zc,rfl,aA⟩:=D6 ah;have c0:=Z 0 _ rfl;have c8:=Z 1 _ rfl;have bU:=Z 2 _ rfl;have bt:=Z 3 _ rfl;have bV:=Z 4 _ rfl;have b7:=Z 5 _ rfl;have b9:=Z 6 _ rfl;simp only[LM] at c0;have I:=ae aA;clear hC bq Z bx be b0 dT H ah br bv aA;go_upto_region 20 with(fail);generalize hV:World.alloc _ _=V;have T:=aZ hV;have n:=aN hV;have a9:=bW.b7.aj T;replace ai:=((Fr.tG T).1 pb _ N).trans ai
      replace N:pb<V.heap.size:=LC N T.size
      have ns:=bW.b7.lt;have cI:=T.size;clear hV a0 ak af c0 c8 bU bt bV b7 b9 bR;obtain⟨d0,aK,aO⟩:=n.two;obtain⟨a0,ak,af⟩:=a9.two;clear a9 n;go_wp2;refine eK (λ_=>False) [(0,3),(1,0),(2,3),(3,3),(4,3),(5,3),(6,0),(7,3)] ?_;refine pf ?_;refine ph ?_
      iterate 4 refine pf ?_
      refine ph ?_;refine pf ?_;refine aC ?_;clear ai N;go_wp2;refine eK (λ_=>False) [(0,3),(1,0),(2,3),(3,3),(4,0),(5,3),(6,1),(7,1),(8,2),(9,3),(10,2)] ?_;refine pf ?_;refine bO (v:=?_) rfl (by rfl) (λV hV=>?_) ?_;rotate_left
      .obtain⟨hVc,hVf⟩:=Fr.jy hV
       (go_simp<;>with_reducible rfl)
      try simp only[PU]
      iterate 2 refine pf ?_
      refine bO (v:=?_) rfl (by rfl) (λV hV=>?_) ?_;rotate_left
      .obtain⟨hVc,hVf⟩:=Fr.jy hV
       (go_simp<;>with_reducible rfl)
      try simp only[PU]
      refine pf ?_;refine aI rfl (λK hK=>?_);go_simp;refine(ef g l M r eB st bZ cR cM cL _ (b2.on (bW.ext.trans T).drew.drew) (eV.on (bW.ext.trans T).drew.drew) (D.on I.o (Fr.ext T.drew.drew))).mono ?_;rintro e aP ⟨g5,g6,cr,cd,cC,rfl,cO,ar⟩;refine dP hK (ar) ?_;clear hK K;have aL:Ext V aP:=Fr.aF (Fr.aF ar);have S:(ds (mA l r)).rep aP (fresh V aP) [.bool g5,.int .i64 g6,.slice cr cd cC]:=cO;have bo:=T.trans aL;have a1:=aL.size;have az:∀b,(Value.slice IA i ic).ownBlock=some b->b<V.heap.size:=λb O=>by have:=(bW.g2.one.lt O).2;omega
      have a4:∀b,(Value.slice bB j lc).ownBlock=some b->b<V.heap.size:=λb O=>by have:=(bW.g2.two.lt O).2;omega
      refine ry ?_;refine au rfl (λK hK=>?_);rw[if_pos (by rfl)];refine q8 H2 (.tmp 92) (.tmp 98) (by rfl) (bW.g2.aj bo).two (uy S ad a4 az) (by rfl) (by rfl) (by rfl) ad ad ad ?_;intro dh di aW an ay b1 cf;have m:=(bW.b7.aj bo).on ay (λO=>by have:=(bW.g2.two.lt O).1;omega);have ca:=bA an ay b1 bo;clear an ay b1 cO S ar aL bo T a0 ak af d0 aK aO az a4 a1;obtain⟨a0,ak,af⟩:=m.two;clear m;refine dU hK ?_;clear hK K;refine pf ?_;refine au rfl (λK hK=>?_);go_simp;refine dU hK ?_;clear hK K;refine aC ?_;clear a0 ak af;generalize hX:World.setCell aW _ _=cQ;have c7:=ae (bW.place ca.2.2.2 HA.o ca.1 ca.2.1 ca.2.2.1 hX);clear hX;go_wp2;go_roundw
      case rel=>exact⟨k+1,IA,i,ic,dh,j+1,di,ad,by go_num,ad,ad,c7.o⟩
      case measure=>exact aE
     .rw[bG] at ai;obtain⟨bX,b6,zc,db,cd,xs,cr,c4,cC,rfl,aA⟩:=D4 ah;have c0:=Z 0 _ rfl;have c8:=Z 1 _ rfl;have bU:=Z 2 _ rfl;have bt:=Z 3 _ rfl;have bV:=Z 4 _ rfl;have b7:=Z 5 _ rfl;have b9:=Z 6 _ rfl;simp only[LM] at c0;have I:=ae aA;clear hC bq Z bx be b0 dT H ah br bv aA;go_upto_region 20 with(fail);generalize hV:World.alloc _ _=V;have T:=aZ hV;have n:=aN hV;have a9:=bW.b7.aj T;replace ai:=((Fr.tG T).1 pb _ N).trans ai
      replace N:pb<V.heap.size:=LC N T.size
      have ns:=bW.b7.lt;have cI:=T.size;clear hV a0 ak af c0 c8 bU bt bV b7 b9 bR;obtain⟨d0,aK,aO⟩:=n.two;obtain⟨a0,ak,af⟩:=a9.two;clear a9 n;go_wp2;refine eK (λ_=>False) [(0,3),(1,0),(2,3),(3,3),(4,3),(5,3),(6,0),(7,3)] ?_;refine pf ?_;refine ph ?_
      iterate 4 refine pf ?_
      refine ph ?_;refine pf ?_;refine aC ?_;clear ai N;go_wp2;refine eK (λ_=>False) [(0,3),(1,0),(2,3),(3,3),(4,0),(5,3),(6,1),(7,1),(8,2),(9,3),(10,2)] ?_;refine pf ?_;refine bO (v:=?_) rfl (by rfl) (λV hV=>?_) ?_;rotate_left
      .obtain⟨hVc,hVf⟩:=Fr.jy hV
       (go_simp<;>with_reducible rfl)
      try simp only[PU]
      iterate 2 refine pf ?_
      refine bO (v:=?_) rfl (by rfl) (λV hV=>?_) ?_;rotate_left
      .obtain⟨hVc,hVf⟩:=Fr.jy hV
       (go_simp<;>with_reducible rfl)
      try simp only[PU]
      refine pf ?_;refine aI rfl (λK hK=>?_);go_simp;refine(gx l x cw g st _ _ _ _ _ _ _ (b2.on (bW.ext.trans T).drew.drew) (D.on I.o (Fr.ext T.drew.drew))).mono ?_;rintro e aP ⟨cX,c5,cG,cY,da,c6,rfl,cO,ar⟩;refine dP hK (ar) ?_;clear hK K;have aL:Ext V aP:=Fr.aF (Fr.aF ar);have S:(bk (bK l x)).rep aP (fresh V aP) [.int .i64 cX,.int .i64 c5,.string cG,.slice cY da c6]:=cO;have bo:=T.trans aL;have a1:=aL.size;have az:∀b,(Value.slice IA i ic).ownBlock=some b->b<V.heap.size:=λb O=>by have:=(bW.g2.one.lt O).2;omega
      have a4:∀b,(Value.slice bB j lc).ownBlock=some b->b<V.heap.size:=λb O=>by have:=(bW.g2.two.lt O).2;omega
      refine ry ?_;refine au rfl (λK hK=>?_);rw[if_pos (by rfl)];refine q8 pR (.tmp 102) (.tmp 108) (by rfl) (bW.g2.aj bo).one (uy S ad az a4) (by rfl) (by rfl) (by rfl) ad ad ad ?_;intro aD cH aW an ay b1 cf;have m:=(bW.b7.aj bo).on ay (λO=>by have:=(bW.g2.one.lt O).1;omega);have ca:=bA an ay b1 bo;clear an ay b1 cO S ar aL bo T a0 ak af d0 aK aO az a4 a1;obtain⟨a0,ak,af⟩:=m.two;clear m;refine dU hK ?_;clear hK K;refine pf ?_;refine au rfl (λK hK=>?_);go_simp;refine dU hK ?_;clear hK K;refine aC ?_;clear a0 ak af;generalize hX:World.setCell aW _ _=cQ;have c7:=ae (bW.int ca.2.2.2 HA.o ca.1 ca.2.1 ca.2.2.1 hX);clear hX;go_wp2;go_roundw
      case rel=>exact⟨k+1,aD,i+1,cH,bB,j,lc,ad,by go_num,ad,ad,c7.o⟩
      case measure=>exact aE
    .obtain rfl:k=n1:=ad;have a9:=hC.b7;have cE:=hC.b6;clear hC a0 ak af;obtain⟨a0,ak,af⟩:=a9.two;obtain⟨d0,aK,aO⟩:=cE.two;clear a9;go_wp2;generalize hX:World.setCell _ _ _=cQ;obtain⟨bf,bb,ce⟩:=bs (fG op aB false IA i ic bB j lc).toList (by rfl) cE bW.ext ad hX;clear hX a0 ak af d0 aK aO;obtain⟨bp,aM,aV⟩:=bf.two;refine Mf (v:=.agg (fG op aB false IA i ic bB j lc)) (by simp[results,Tryz.results135,go_sem,bp]) rfl ?_;have hG:=bW.g2.cS ce λb O _=>ad;have fa:=ce.size;rw[LK ad] at hG;refine⟨IA,i,ic,bB,j,lc,rfl,?_,bb⟩;exact jF (hG.one.sl (λb ac ax=>⟨by have:=ax.1;omega,ac⟩) (λb ac ax=>⟨ad,ac⟩)) (hG.two.sl (λb ac ax=>⟨by have:=ax.1;omega,ac⟩) (λb ac ax=>⟨ad,ac⟩)) hG.one.cap.1 hG.two.cap.1
end Go.Proofs.YtflecliffjbleaaGreat
