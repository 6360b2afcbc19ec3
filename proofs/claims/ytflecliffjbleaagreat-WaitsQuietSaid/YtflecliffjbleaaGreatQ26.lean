/- Part 26 of the proof. No condition of its own. -/
import Derived.Test.YtflecliffjbleaaGreatQ25
namespace Go.Proofs.YtflecliffjbleaaGreat
open Go.RowKit Go.Proofs.Tryz
set_option maxRecDepth 1000000
set_option maxHeartbeats 25600000
set_option linter.unusedVariables false
variable{cs:List Value}{P:Nat->Prop}{r:eN}
structure zx(w:World)(g:Nat)(F:List aA):Prop where
 lt:g<w.heap.size
 ex:∃A n c,n<=1000000/\w.cell? ⟨g,2,none⟩=some (.slice A n c)/\Sl w (au w) A n (F.map dr)
theorem zx.on{w ac:World}{g:Nat}{F:List aA}(h:zx w g F)(O:Ext w ac):zx ac g F:=by
 exact CS
theorem la{w:World}{f:aA}:(dr f).rep w P cs↔∃A n c B m k,cs=[.string f.name,.slice A n c,.slice B m k]/\n<=c/\m<=k/\Sl w P A n (f.params.map ct)/\Sl w P B m (cY f.body):=by
 unfold dr;rw[bB,ch];constructor
 .rintro⟨y,rfl,h⟩;obtain⟨A,n,c,cr,rfl,hc,hs,h⟩:=aF.1 h;obtain⟨B,m,k,br,rfl,ai,O,h⟩:=aF.1 h;rw[aK] at h;subst h;exact⟨A,n,c,B,m,k,rfl,hc,ai,hs,O⟩
 .rintro⟨A,n,c,B,m,k,rfl,hc,ai,hs,O⟩;exact⟨_,rfl,aF.2 ⟨A,n,c,_,rfl,hc,hs,aF.2 ⟨B,m,k,[],rfl,ai,O,aK.2 rfl⟩⟩⟩
theorem nA(f:aA):(dr f).sz=3:=rfl
theorem rP(q:ByteArray×Bool):(ct q).sz=2:=rfl
theorem oc{w:World}{q:ByteArray×Bool}:(ct q).rep w P cs↔cs=[.string q.1,.bool q.2]:=by
 unfold ct;rw[bB,ch];constructor
 .rintro⟨y,rfl,h⟩;obtain⟨br,rfl,aD⟩:=fi.1 h;rw[aK] at aD;subst aD;rfl
 .rintro rfl;exact⟨_,rfl,fi.2 ⟨_,rfl,aK.2 rfl⟩⟩
theorem Hj:ca prog 59 58 (.agg #[.bool false,.int .i64 0,.slice none 0 0]) 3 40:=ca.mk' Tryz.underlying59 (by kernel_rfl) rfl ab
abbrev fp(op t:Int)(g:Bool)(IA:LP)(i ic:Nat)(S:LP)(k lc:Nat):Array Value:=
 #[.int .i64 op,.int .i64 t,.bool g,.int .i64 0,.int .i64 0,.string ⟨#[]⟩,.slice none 0 0,.bool false,.int .i64 0,.slice none 0 0,.slice IA i ic,.slice S k lc]
theorem Dg{w:World}(h:(eD (.mx r)).rep w P cs):∃s A n c A2 c2,cs=[.bool true,.string s,.slice A n c,.int .i64 0,.int .i64 0,.string ⟨#[]⟩,.slice A2 0 c2]/\(kJ r).rep w P [.string s,.slice A n c]:=by
 exact Gu
namespace BY
theorem vL{p:Prop}(h:p:=by
 obtain⟨A,n,c,bF,rfl,_,_,ba⟩:=aF.1 hx;rw[aK] at ba;subst ba;rw[D.bo] at a4;obtain⟨A2,c6,c2,rfl,_,_⟩:=aW.1 a4;exact⟨_,_,_,_,_,_,_,_,_,rfl,a4⟩
 ):p:=h
end BY
open BY in
theorem De{w:World}{e:VE}(h:(eD (.ex e)).rep w P cs):∃cn bW rc op n s A m c,cs=[.bool false,.string ⟨#[]⟩,.slice cn bW rc,.int .i64 op,.int .i64 n,.string s,.slice A m c]/\(bf e).rep w P [.int .i64 op,.int .i64 n,.string s,.slice A m c]:=by
 exact vK
theorem qN{w:World}{l:List D}(h:D.aJ w P l cs):D.aJ w P (jQ::l) (.int .i64 0::.int .i64 0::.string ⟨#[]⟩::.slice none 0 0::cs):=
 dy.2 ⟨[.int .i64 0,.int .i64 0,.string ⟨#[]⟩,.slice none 0 0],cs,rfl,fa.2 ⟨none,0,rfl⟩,h⟩
theorem ox{w:World}{l:List D}(h:D.aJ w P l cs):D.aJ w P (ds kh::l) (.bool false::.int .i64 0::.slice none 0 0::cs):=
 dy.2 ⟨[.bool false,.int .i64 0,.slice none 0 0],cs,rfl,eu.2 ⟨none,0,0,rfl,Lb _,Sl.bN _⟩,h⟩
theorem jA{w:World}{op t:Int}{g:Bool}{is:List VE}{ps:List bJ}{IA:LP}{i ic:Nat}{S:LP}{k lc:Nat}(ae:Sl w P IA i (is.map bf))(aD:Sl w P S k (ps.map ds))(c1:i<=ic)(c2:k<=lc):
  (dV ⟨op,t,g,none,kh,is,ps⟩).rep w P (fp op t g IA i ic S k lc).toList:=by
 unfold dV;rw[bB];exact a5.2 ⟨_,rfl,a5.2 ⟨_,rfl,fi.2 ⟨_,rfl,qN (ox (aF.2 ⟨IA,i,ic,_,rfl,c1,ae,aF.2 ⟨S,k,lc,[],rfl,c2,aD,aK.2 rfl⟩⟩))⟩⟩⟩
theorem vS:ca prog 112 61 (.agg (fp 0 0 false none 0 0 none 0 0)) 12 168:=ca.mk' Tryz.underlying112 (by kernel_rfl) rfl ab
structure cJ(w:World)(g B:Nat)(M:List bF)(F:List aA)(l:List dG)(S:LP)(ln lc:Nat)(n:Int)(st:Nat)(code:List ay)(sites:List Int)(bQ:LP)(bT:Nat)(bM:LP)(bo:Nat):Prop where
 blk:∃GA gn gc MA mn mc FA fn fc,an w g 194 #[.slice GA gn gc,.slice MA mn mc,.slice FA fn fc,.slice S ln lc,.int .i64 n,.int .i64 st,.int .i64 0,.int .i64 0,.slice bQ code.length bT,.slice bM sites.length bo]/\mn<=1000000/\fn<=1000000/\
  Sl w (off (Ms g (.slice bQ code.length bT) (.slice bM sites.length bo)) w) MA mn (M.map ek)/\Sl w (off (Ms g (.slice bQ code.length bT) (.slice bM sites.length bo)) w) FA fn (F.map dr)
 base:g<B/\B<=w.heap.size
 names:ln<=1000000/\Sl w (off (Ms g (.slice bQ code.length bT) (.slice bM sites.length bo)) w) S ln (l.map bS)
 rows:lG B 61 12 3 1 w bQ code.length bT (code.map dV) bM sites.length bo (sites.map D.i)
section
variable {w ac aP aV b3 cz X:World} {g B:Nat} {M:List bF} {F:List aA} {l:List dG} {S:LP} {ln lc:Nat} {n:Int} {st:Nat} {code:List ay} {sites:List Int} {bQ:LP} {bT:Nat} {bM:LP} {bo:Nat}
theorem cJ.lt(h:cJ w g B M F l S ln lc n st code sites bQ bT bM bo):g<w.heap.size:=by
 obtain⟨GA,gn,gc,MA,mn,mc,FA,fn,fc,aN,_⟩:=h.blk;exact aN.lt
theorem cJ.L(h:cJ w g B M F l S ln lc n st code sites bQ bT bM bo):tI w g l:=by
 obtain⟨GA,gn,gc,MA,mn,mc,FA,fn,fc,aN,_⟩:=h.blk;exact⟨aN.lt,S,ln,lc,h.names.1,aN.cell 3,h.names.2.mono λb O=>O.1⟩
theorem cJ.M_(h:cJ w g B M F l S ln lc n st code sites bQ bT bM bo):yr w g M:=by
 obtain⟨GA,gn,gc,MA,mn,mc,FA,fn,fc,aN,ae,aD,aU,a1⟩:=h.blk;exact⟨aN.lt,MA,mn,mc,ae,aN.cell 1,aU.mono λb O=>O.1⟩
theorem cJ.F_(h:cJ w g B M F l S ln lc n st code sites bQ bT bM bo):zx w g F:=by
 obtain⟨GA,gn,gc,MA,mn,mc,FA,fn,fc,aN,ae,aD,aU,a1⟩:=h.blk;exact⟨aN.lt,FA,fn,fc,aD,aN.cell 2,a1.mono λb O=>O.1⟩
theorem cJ.aj(h:cJ w g B M F l S ln lc n st code sites bQ bT bM bo)(he:Ext w ac):cJ ac g B M F l S ln lc n st code sites bQ bT bM bo:=by
 obtain⟨GA,gn,gc,MA,mn,mc,FA,fn,fc,aN,ae,aD,aU,a1⟩:=h.blk;exact⟨⟨GA,gn,gc,MA,mn,mc,FA,fn,fc,aN.aj he,ae,aD,aU.cM (Mv.g4 he),a1.cM (Mv.g4 he)⟩,⟨h.base.1,Ls h.base.2 he.size⟩,⟨h.names.1,h.names.2.cM (Mv.g4 he)⟩,h.rows.aj he⟩
abbrev J2(B g:Nat)(cv sv:Value)(w:World):Nat->Prop:=λb=>B<=b/\off (Ms g cv sv) w b
theorem cJ.added(h:cJ w g B M F l S ln lc n st code sites bQ bT bM bo){x:ay}{s:Int}{Y al:LP}{af aH:Nat}(e1:Ext w aP)
  (ae:Gr (λb=>B<=b/\(Value.slice bM sites.length bo).ownBlock≠some b) B 61 12 aV Y (code.length+1) af (code.map dV++[dV x])) (f1:Fr (λb=>(Value.slice bQ code.length bT).ownBlock=some b) aP aV) (o1:dp aP bQ code.length bT Y (code.length+1) af)
  (e2:Ext aV b3) (aD:Gr (λb=>B<=b/\(Value.slice Y (code.length+1) af).ownBlock≠some b) B 3 1 cz al (sites.length+1) aH (sites.map D.i++[D.i s])) (f2:Fr (λb=>(Value.slice bM sites.length bo).ownBlock=some b) b3 cz) (fg:dp b3 bM sites.length bo al (sites.length+1) aH)
  (hX:(cz.setCell ⟨g,8,none⟩ (.slice Y (code.length+1) af)).setCell ⟨g,9,none⟩ (.slice al (sites.length+1) aH)=X) :
  cJ X g B M F l S ln lc n st (code++[x]) (sites++[s]) Y af al aH/\Mv g (.slice bQ code.length bT) (.slice bM sites.length bo) w (.slice Y (code.length+1) af) (.slice al (sites.length+1) aH) X:=by
 have aw:=h.lt;have b1:=EU hX;have s1:=e1.size;have s2:=f1.size;have ai:=e2.size;have hM:Mv g (.slice bQ code.length bT) (.slice bM sites.length bo) w (.slice Y (code.length+1) af) (.slice al (sites.length+1) aH) X:=by
  refine⟨Fr.trans (Fr.mono e1 λ_ h=>h.elim) (Fr.trans (f1.mono λb O=>.inr (.inl O)) (Fr.trans (Fr.mono e2 λ_ h=>h.elim) (Fr.trans (f2.mono λb O=>.inr (.inr O)) (b1.mono λb O=>.inl O)))),λb O hm=>?_⟩;rcases hm with hm|hm|hm
  .exact .inl hm
  .rcases o1 b hm with ae|ae
   .exact .inr (.inl ae)
   .omega
  .rcases fg b hm with ae|ae
   .exact .inr (.inr ae)
   .omega
 refine⟨?_,hM⟩;obtain⟨GA,gn,gc,MA,mn,mc,FA,fn,fc,aN,cd,bJ,aZ,H⟩:=h.blk;have a:∀b,(Value.slice bQ code.length bT).ownBlock=some b->g<b:=λb O=>Lc h.base.1 (h.rows.one.lt O).1;have Z:∀b,(Value.slice bM sites.length bo).ownBlock=some b->g<b:=λb O=>Lc h.base.1 (h.rows.two.lt O).1;have bK:an cz g _ _:=(((aN.aj e1).on f1 λO=>by have:=a _ O;omega).aj e2).on f2 λO=>by have:=Z _ O;omega
 have L:lG B 61 12 3 1 b3 Y (code.length+1) af (code.map dV++[dV x]) bM sites.length bo (sites.map D.i):=((h.rows.aj e1).grow ae f1 o1).aj e2;have z:=(L.swap.grow aD f2 fg).swap;refine⟨⟨GA,gn,gc,MA,mn,mc,FA,fn,fc,?_,cd,bJ,?_,?_⟩,⟨h.base.1,Ls h.base.2 hM.fr.size⟩,⟨h.names.1,?_⟩,?_⟩
 .rw[<-hX,Ld,Ld];exact(bK.aD 8 _).aD 9 _
 .rw[Ld,Ld];exact aZ.cM hM
 .rw[Ld,Ld];exact H.cM hM
 .rw[Ld,Ld];exact h.names.2.cM hM
 .rw[Li,Li,Ld,Ld];exact z.cS b1 λb O _=>by have:=h.base.1;omega
end
def G7(w:World)(g B:Nat)(M:List bF)(F:List aA)(l:List dG)(S:LP)(ln lc:Nat)(n:Int)(st:Nat)(code:List ay)(sites:List Int)(bQ:LP)(bT:Nat)(bM:LP)(bo:Nat)(x:ay)(s:Int)(e:Ending)(ac:World):Prop:=
 e=.returned (.int .i64 code.length)/\∃Y af al aH,cJ ac g B M F l S ln lc n st (code++[x]) (sites++[s]) Y af al aH/\Mv g (.slice bQ code.length bT) (.slice bM sites.length bo) w (.slice Y (code.length+1) af) (.slice al (sites.length+1) aH) ac
theorem gU{w:World}{g B:Nat}{M:List bF}{F:List aA}{l:List dG}{S:LP}{ln lc:Nat}{n:Int}{st:Nat}{code:List ay}{sites:List Int}{bQ:LP}{bT:Nat}{bM:LP}{bo:Nat}(h:cJ w g B M F l S ln lc n st code sites bQ bT bM bo)
  (x:ay) (s:Int) {op t:Int} {gl:Bool} {eo en:Int} {es:ByteArray} {EA:LP} {em ec:Nat} {pb:Bool} {pi:Int} {PA:LP} {pm pc:Nat} {IA:LP} {i ic:Nat} {KA:LP} {k kc:Nat}
  (hx:(dV x).rep w (J2 B g (.slice bQ code.length bT) (.slice bM sites.length bo) w) [.int .i64 op,.int .i64 t,.bool gl,.int .i64 eo,.int .i64 en,.string es,.slice EA em ec,.bool pb,.int .i64 pi,.slice PA pm pc,.slice IA i ic,.slice KA k kc])
  (ae:code.length<=100000) (aD:sites.length<=100000) :
  Calls prog 112 #[.pointer (some ⟨g,0,none⟩),.agg #[.int .i64 op,.int .i64 t,.bool gl,.int .i64 eo,.int .i64 en,.string es,.slice EA em ec,.bool pb,.int .i64 pi,.slice PA pm pc,.slice IA i ic,.slice KA k kc],.int .i64 s] w
   (G7 w g B M F l S ln lc n st code sites bQ bT bM bo x s):=by
 obtain⟨H,aR⟩:=aM h hx;obtain⟨GA,gn,gc,MA,mn,mc,FA,fn,fc,aN,_⟩:=h.blk;have bx:=ad aN;clear h hx aN;go_enter func112,ntmps112;go_upto_region 1 with(fail);generalize be:World.alloc _ _=W;have aE:=bb be;have eJ:=aT be;clear be;obtain⟨a8,dK⟩:=aM aE eJ;obtain⟨a0,ap,aj⟩:=eJ.two;obtain⟨a3,am,aJ⟩:=(bx.aj aE).two;have dQ:=bx.lt;have np:=aE.size;have bl:=H.base.1;have m:=H.base.2;clear aE eJ;have b0:¬(Value.slice bQ code.length bT).ownBlock=some g:=λO=>by have:=(H.rows.one.lt O).1;omega
 have au:¬(Value.slice bQ code.length bT).ownBlock=some w.heap.size:=λO=>by have:=(H.rows.one.lt O).2;omega
 have aK:∀b,(Value.slice bQ code.length bT).ownBlock=some b->b<W.heap.size:=λb O=>by have:=(H.rows.one.lt O).2;omega
 have y:∀b,(Value.slice bM sites.length bo).ownBlock=some b->b<W.heap.size:=λb O=>by have:=(H.rows.two.lt O).2;omega
 have u:(dV x).rep W (lu (λb=>B<=b/\(Value.slice bM sites.length bo).ownBlock≠some b) W (.slice bQ code.length bT)) _:=
  D.aE (λb O=>⟨⟨O.1,λhc=>O.2.2 (.inr (.inr hc))⟩,Lc O.2.1 np,λhc=>O.2.2 (.inr (.inl hc))⟩) _ _ (D.aP (λb O=>a8.block b O.2.1 λh=>h) _ _ aR.o)
 have o:=H.rows.aj a8.o;obtain⟨j,aQ⟩:=aM u o;clear u o;refine uP (λb=>(Value.slice bQ code.length bT).ownBlock=some b) [15,18,21] (.free 0 (.free 1 (.free 2 (.free 3 (.free 4 (.held 5 (.held 6 (.free 9 (.free 10 (.free 11 (.held 12 (.free 13 (.pick [7,14] (λi=>bif i == 7 then .pick [8,14] (λi=>bif i == 8 then .pick [14] (λ_=>.pick [15] (λ_=>.free 16 (.free 17 (.pick [18] (λ_=>.free 19 (.free 20 (.pick [21] (λ_=>.stop)))))))) else .pick [8] (λ_=>.pick [15] (λ_=>.free 16 (.free 17 (.pick [18] (λ_=>.free 19 (.free 20 (.pick [21] (λ_=>.stop))))))))) else .pick [7] (λ_=>.pick [8] (λ_=>.pick [15] (λ_=>.free 16 (.free 17 (.pick [18] (λ_=>.free 19 (.free 20 (.pick [21] (λ_=>.stop))))))))))))))))))))))) ?_
 iterate 5 refine tf ?_
 iterate 2 refine oJ ?_
 iterate 3 refine tf ?_
 refine oJ ?_;refine tf ?_;refine iL (P:=?P1) (ops:=?o1) (Q:=?q1) (R:=?r1) (tails:=?t1) (rest:=.pick [15] (λ_=>.free 16 (.free 17 (.pick [18] (λ_=>.free 19 (.free 20 (.pick [21] (λ_=>.stop)))))))) (aa:=?KM)
  (C:=λ(_:Nat) bE A2 c2 V=>True/\∃aP aV,Ext W aP/\Gr (λb=>B<=b/\(Value.slice bM sites.length bo).ownBlock≠some b) B 61 12 aV A2 (code.length+1) c2 (code.map dV++[dV x])/\Fr (λb=>(Value.slice bQ code.length bT).ownBlock=some b) aP aV/\dp aP bQ code.length bT A2 (code.length+1) c2/\Ext aV V/\an V bE 3 #[.int .i64 s]) (λkey=>?IS) ?Jv
 case IS=>
  refine bt ?_ ?_
  ·
   refine fj ?_;generalize hV:World.drew (World.alloc _ _)=c3;have e1:=gX hV;have dD:an c3 W.heap.size 61 #[.int .i64 op,.int .i64 t,.bool gl,.int .i64 eo,.int .i64 en,.string es,.slice EA em ec,.bool pb,.int .i64 pi,.slice PA pm pc,.slice IA i ic,.slice KA k kc]:=hV▸LM;clear hV;refine bt ?_ ?_
   ·
    refine aG rfl (λK hK=>?_) rfl;rw[if_pos (by rfl)];refine eX vS (.tmp 12) (.tmp 14) (by rfl) (aQ.aj e1).one dD (wj j.o e1) (by rfl) (by rfl) (by rfl) ab ab (aC e1.size) ?_;intro Y af aV b9 f1 o1 c1;refine ei hK (f1) ?_;clear hK K;refine ao ?_;refine fj ?_;have F:True/\∃aP f,Ext W aP/\Gr (λb=>B<=b/\(Value.slice bM sites.length bo).ownBlock≠some b) B 61 12 f Y (code.length+1) af (code.map dV++[dV x])/\Fr (λb=>(Value.slice bQ code.length bT).ownBlock=some b) aP f/\dp aP bQ code.length bT Y (code.length+1) af/\Ext f (aV.alloc (.cells #[.int .i64 s] 3))/\an (aV.alloc (.cells #[.int .i64 s] 3)) (aV.heap.size) 3 #[.int .i64 s]:=
     ⟨trivial,c3,aV,e1,b9,f1,o1,LL.alloc _,LM⟩
    clear b9 o1;revert F;generalize aV.heap.size=bE;generalize W.heap.size=eT;intro F;exact key eT bE Y af _ F
   ·
    refine fj ?_;generalize hV:World.alloc _ _=J;have b7:an J c3.heap.size 3 #[.int .i64 s]:=hV▸LM;have aU:=by have:=dD.alloc (.cells #[.int .i64 s] 3);rw[hV] at this;exact this
    have e2:Ext W J:=hV▸e1.alloc _;clear hV dD;refine ao ?_;refine aG rfl (λK hK=>?_) rfl;rw[if_pos (by rfl)];refine eX vS (.tmp 12) (.tmp 14) (by rfl) (aQ.aj e2).one aU (wj j.o e2) (by rfl) (by rfl) (by rfl) ab ab (aC e2.size) ?_;intro Y af aV b9 f1 o1 c1;refine ei hK (f1) ?_;clear hK K;have a6:¬(Value.slice bQ code.length bT).ownBlock=some c3.heap.size:=λO=>by have:=aK _ O;have:=e1.size;omega
    have F:True/\∃aP f,Ext W aP/\Gr (λb=>B<=b/\(Value.slice bM sites.length bo).ownBlock≠some b) B 61 12 f Y (code.length+1) af (code.map dV++[dV x])/\Fr (λb=>(Value.slice bQ code.length bT).ownBlock=some b) aP f/\dp aP bQ code.length bT Y (code.length+1) af/\Ext f aV/\an aV (c3.heap.size) 3 #[.int .i64 s]:=
     ⟨trivial,J,aV,e2,b9,f1,o1,LL,b7.on f1 a6⟩
    clear b9 o1;revert F;generalize c3.heap.size=bE;generalize W.heap.size=eT;intro F;exact key eT bE Y af _ F
  ·
   refine fj ?_;generalize hV:World.drew (World.alloc _ _)=c3;have b7:an c3 W.heap.size 3 #[.int .i64 s]:=hV▸LM;have e1:=gX hV;clear hV;refine ao ?_;refine fj ?_;generalize hV:World.alloc _ _=J;have e2:Ext W J:=hV▸e1.alloc _;have dD:=aT hV;have a4:an J W.heap.size 3 #[.int .i64 s]:=hV▸b7.alloc _;clear hV;refine ao ?_;refine aG rfl (λK hK=>?_) rfl;rw[if_pos (by rfl)];refine eX vS (.tmp 12) (.tmp 14) (by rfl) (aQ.aj e2).one dD (wj j.o e2) (by rfl) (by rfl) (by rfl) ab ab (aC e2.size) ?_;intro Y af aV b9 f1 o1 c1;refine ei hK (f1) ?_;clear hK K;have a6:¬(Value.slice bQ code.length bT).ownBlock=some W.heap.size:=λO=>by have:=aK _ O;omega
   have F:True/\∃aP f,Ext W aP/\Gr (λb=>B<=b/\(Value.slice bM sites.length bo).ownBlock≠some b) B 61 12 f Y (code.length+1) af (code.map dV++[dV x])/\Fr (λb=>(Value.slice bQ code.length bT).ownBlock=some b) aP f/\dp aP bQ code.length bT Y (code.length+1) af/\Ext f aV/\an aV (W.heap.size) 3 #[.int .i64 s]:=
    ⟨trivial,J,aV,e2,b9,f1,o1,LL,a4.on f1 a6⟩
   clear b9 o1;revert F;generalize W.heap.size=bE;generalize c3.heap.size=eT;intro F;exact key eT bE Y af _ F
 case Jv=>
  rintro eT bE Y af V ⟨v,aP,aV,e1,b9,f1,o1,e2,b7⟩;have s1:=e1.size;have s2:=f1.size;have ai:=e2.size;have hG:lG B 61 12 3 1 V Y (code.length+1) af (code.map dV++[dV x]) bM sites.length bo (sites.map D.i):=((aQ.aj e1).grow b9 f1 o1).aj e2;have bV:an V g _ _:=(((bx.aj a8.o).aj e1).on f1 b0).aj e2;have r:¬(Value.slice bM sites.length bo).ownBlock=some g:=λO=>by have:=(H.rows.two.lt O).1;omega
  clear a0 ap aj a3 am aJ;refine ao ?_;refine cj rfl (λK hK=>?_) rfl;rw[if_pos (by rfl)];refine eX de (.tmp 19) (.tmp 21) (by rfl) hG.two b7 (show (D.i s).rep V _ _ from by simp only[D.rep]) (by rfl) (by rfl) (by rfl) ab ab ab ?_;intro al aH cz g2 f2 fg c2;have bY:=aL g2 f2 fg;have bK:=bV.on f2 r;have cr:=dq e1 b9 f1 o1 e2;clear g2 f2 fg bV b7 e1 b9 f1 o1 e2 hG;obtain⟨a3,am,aJ⟩:=bK.two;refine eL hK ?_;clear hK K
  iterate 2 refine tf ?_
  refine ao ?_;refine cj rfl (λK hK=>?_) rfl;go_simp;refine eL hK ?_;clear hK K
  iterate 2 refine tf ?_
  refine ao ?_;refine cj rfl (λK hK=>?_) rfl;go_simp;refine eL hK ?_;clear hK K;refine cB ?_;generalize hX:World.setCell _ _ _=X;obtain⟨e1,b9,f1,o1,e2⟩:=cr.o;obtain⟨hS,hM⟩:=cJ.added H.o (a8.trans e1) b9 f1 o1 e2 bY.1 bY.2.1 bY.2.2 hX;have bB:=ah hS hM;obtain⟨ee,cH,bG,ej,go,eu,cV,f0,cd,bw,_⟩:=hS.blk;clear hX a3 am aJ bK hS hM e1 b9 f1 o1 e2;obtain⟨a3,am,aJ⟩:=bw.two;go_wp2;go_ret;refine⟨ret_int ?_,Y,af,al,aH,?_⟩
  .simp
  .exact bB.o
def EK(w:World)(x:ay)(e:Ending)(ac:World):Prop:=
 ∃(IA:LP) (i ic:Nat) (S:LP) (k lc:Nat),e=.returned (.agg (fp x.op x.target x.dw IA i ic S k lc))/\(dV x).rep ac (fresh w ac) (fp x.op x.target x.dw IA i ic S k lc).toList/\Ext w ac
structure ku(w wr:World)(l:List dG)(op aX:Int)(aM:Array Value)(aI:List dd)(k:Nat)(IA:LP)(i ic:Nat)(S:LP)(j lc:Nat):Prop where
 ext:Ext w wr
 b4:an wr w.heap.size 188 aM
 b6:an wr (w.heap.size+1) 61 (fp 0 0 false none 0 0 none 0 0)
 b7:an wr (w.heap.size+2) 61 (fp op aX false IA i ic S j lc)
 g2:lG (w.heap.size+3) 56 4 58 3 wr IA i ic ((bL l (aI.take k)).map bf) S j lc ((cw l (aI.take k)).map ds)
section
variable {w wr aP aV X:World} {l:List dG} {op aX:Int} {aM:Array Value} {aI:List dd} {k:Nat} {IA:LP} {i ic:Nat} {S:LP} {j lc:Nat}
theorem oe{own:Nat->Prop}{g:Nat}(h:Ext w wr)(he:Ext wr aP)(J:Fr own aP aV)(ax:∀b,own b->w.heap.size<=b)(aK:w.heap.size<=g)(hX:Fr (λb=>b=g) aV X):Ext w X:=by
 have e1:Fr (λb=>w.heap.size<=b) w X:=Fr.trans (Fr.mono h λ_ h=>h.elim) (Fr.trans (Fr.mono he λ_ h=>h.elim) (Fr.trans (J.mono ax) (hX.mono λb O=>by subst O;exact aK)));exact e1.low λ_ h=>h
theorem ku.place(h:ku w wr l op aX aM aI k IA i ic S j lc)(he:Ext wr aP)(aW:aI[k]?=some (.mx r)){bx:LP}{bz:Nat}
  (aK:Gr (λb=>w.heap.size+3<=b/\(Value.slice IA i ic).ownBlock≠some b) (w.heap.size+3) 58 3 aV bx (j+1) bz ((cw l (aI.take k)).map ds++[ds (mv l r)]))
  (J:Fr (λb=>(Value.slice S j lc).ownBlock=some b) aP aV) (bl:dp aP S j lc bx (j+1) bz) (hX:aV.setCell ⟨w.heap.size+2,11,none⟩ (.slice bx (j+1) bz)=X) :
  ku w X l op aX aM aI (k+1) IA i ic bx (j+1) bz:=by
 have b1:=dj hX;have aw:∀b,(Value.slice S j lc).ownBlock=some b->w.heap.size+3<=b:=λb O=>(h.g2.two.lt O).1;refine⟨oe h.ext he J (λb O=>by have:=aw b O;omega) ab b1,?_,?_,?_,?_⟩
 .exact((h.b4.aj he).on J λO=>by have:=aw _ O;omega).on b1 ab
 .exact((h.b6.aj he).on J λO=>by have:=aw _ O;omega).on b1 ab
 .rw[<-hX];exact((h.b7.aj he).on J λO=>by have:=aw _ O;omega).aD 11 _
 .have e1:bL l (aI.take (k+1))=bL l (aI.take k):=by rw[a1 aW,(hO l _ _).1];simp[bL]
  have e2:(cw l (aI.take (k+1))).map ds=(cw l (aI.take k)).map ds++[ds (mv l r)]:=by rw[a1 aW,(hO l _ _).2];simp[cw]
  rw[e1,e2];exact(((h.g2.aj he).swap.grow aK J bl).swap).cS b1 λb O _=>ab
theorem ku.int(h:ku w wr l op aX aM aI k IA i ic S j lc)(he:Ext wr aP){x:VE}(aW:aI[k]?=some (.ex x)){aY:LP}{n:Nat}
  (aK:Gr (λb=>w.heap.size+3<=b/\(Value.slice S j lc).ownBlock≠some b) (w.heap.size+3) 56 4 aV aY (i+1) n ((bL l (aI.take k)).map bf++[bf (bC l x)]))
  (J:Fr (λb=>(Value.slice IA i ic).ownBlock=some b) aP aV) (bl:dp aP IA i ic aY (i+1) n) (hX:aV.setCell ⟨w.heap.size+2,10,none⟩ (.slice aY (i+1) n)=X) :
  ku w X l op aX aM aI (k+1) aY (i+1) n S j lc:=by
 have b1:=dj hX;have aw:∀b,(Value.slice IA i ic).ownBlock=some b->w.heap.size+3<=b:=λb O=>(h.g2.one.lt O).1;refine⟨oe h.ext he J (λb O=>by have:=aw b O;omega) ab b1,?_,?_,?_,?_⟩
 .exact((h.b4.aj he).on J λO=>by have:=aw _ O;omega).on b1 ab
 .exact((h.b6.aj he).on J λO=>by have:=aw _ O;omega).on b1 ab
 .rw[<-hX];exact((h.b7.aj he).on J λO=>by have:=aw _ O;omega).aD 10 _
 .have e1:cw l (aI.take (k+1))=cw l (aI.take k):=by rw[a1 aW,(hO l _ _).2];simp[cw]
  have e2:(bL l (aI.take (k+1))).map bf=(bL l (aI.take k)).map bf++[bf (bC l x)]:=by rw[a1 aW,(hO l _ _).1];simp[bL]
  rw[e1,e2];exact((h.g2.aj he).grow aK J bl).cS b1 λb O _=>ab
end
theorem ui{V aP:World}{d:D}{B:Nat}{A I:LP}{n c a5 aA:Nat}(h:d.rep aP (fresh V aP) cs)(aN:B<=V.heap.size)(ae:∀b,(Value.slice A n c).ownBlock=some b->b<V.heap.size)(aD:∀b,(Value.slice I a5 aA).ownBlock=some b->b<V.heap.size):
  d.rep aP (lu (λb=>B<=b/\(Value.slice I a5 aA).ownBlock≠some b) aP (.slice A n c)) cs:=
 D.aE (λb O=>⟨⟨Ls aN O.1,λhc=>by have:=aD b hc;have:=O.1;omega⟩,O.2,λhc=>by have:=ae b hc;have:=O.1;omega⟩) _ _ h
theorem C8(dq:vt)(g:Nat)(l:List dG)(M:List bF)(F:List aA)(b6:Bool)(s:ByteArray)(aI:List dd)(v:dG)(f:aA)(J:dv l s=some v)(ai:v.kind=3)(h0:0<=v.n)(hF:F[v.n.toNat]?=some f)(cc:jj M l f.params aI)(iT:f.params.length<=1000)
  (eo en:Int) (es:ByteArray) (EA:LP) (em ec:Nat) (rs:ByteArray) (cn:LP) (cU rc:Nat) (cy:LP) (n1 c1:Nat) (A2:LP) (n2 c2:Nat) (ck:LP) (n3 c3:Nat) (st:Int)
  (w:World) (bo:tI w g l) (hM:yr w g M) (cv:zx w g F) (hs:Sl w (au w) cy n1 (aI.map eD)) :
  Calls prog 135 #[.pointer (some ⟨g,0,none⟩),.agg #[.int .i64 (if b6 then 4 else 3),.string s,.int .i64 eo,.int .i64 en,.string es,.slice EA em ec,.string rs,.slice cn cU rc,.slice cy n1 c1,.slice A2 n2 c2,.slice ck n3 c3],.int .i64 st] w
   (EK w (lQ b6 v.n (bL l aI) (cw l aI))):=by
 have hlen:=l6 cc;have cP:aI.length=n1:=by rw[<-hs.1,Lf]
 obtain⟨aR,b0,cJ,bN,dL,cL,bB⟩:=CP cc J hF bo hM cv hs;obtain⟨bd,cY,fW⟩:=v;simp only at ai h0 hF;subst ai;obtain⟨aX,rfl⟩:=Lg h0;clear hs bo hM cv cc J hF h0;obtain⟨op,aG⟩:∃op:Int,op=if b6 then 3 else 2:=⟨_,rfl⟩
 have hx:lQ b6 (aX:Int) (bL l aI) (cw l aI)=⟨op,aX,false,none,kh,bL l aI,cw l aI⟩:=by rw[aG];rfl
 rw[hx];clear hx;obtain⟨bU,ba⟩:∃bU:Int,bU=if b6 then 4 else 3:=⟨_,rfl⟩
 have c7:(bU == 4)=b6:=by rw[ba];cases b6<;>rfl
 rw[<-ba];clear ba;go_enter func135,ntmps135;cases b6
 all_goals
  simp only[if_true,LJ,if_false] at aG;go_upto_region 4 with(fail);generalize be:World.alloc _ _=W;have aE:=nt be;have bK:=lL be;have a6:=jv be;have aQ:an W (w.heap.size+2) 61 (fp op 0 false none 0 0 none 0 0):=by rw[<-be,aG];exact an.hY _ _ _ (by simp)
  clear be aG;obtain⟨a8,T,bl,fB⟩:=iR aE bK a6 aQ;obtain⟨aK,S,ln,lc,dn,cI,y⟩:=bN.on aE;have bZ:=ad y;obtain⟨a0,ap,aj⟩:=bK.two;clear aE bK a6 aQ y;refine uP (λ_=>False) [6,11] (.free 0 (.free 1 (.free 2 (.held 3 (.free 4 (.held 5 (.pick [6,10] (λi=>bif i == 6 then .free 7 (.free 8 (.free 9 (.pick [10] (λ_=>.pick [11] (λ_=>.free 12 (.stop)))))) else .pick [6] (λ_=>.free 7 (.free 8 (.free 9 (.pick [11] (λ_=>.free 12 (.stop)))))))))))))) ?_
  iterate 3 refine tf ?_
  refine th ?_;refine tf ?_;refine th ?_;refine lE (P:=?_) (ops:=?_) (Q:=?_) (R:=?_) (tails:=?_) (rest:=.pick [11] (λ_=>.free 12 (.stop))) (aa:=?_) (C:=λdf V=>Ext W V/\an V df 147 #[.string ⟨#[]⟩,.int .i64 0,.int .i64 0]/\W.heap.size<=df) (λkey=>?_) ?_
  rotate_left 6
  ·
   refine bt ?_ ?_
   ·
    refine cj rfl (λK hK=>?_) rfl;go_simp;refine(dS S ln lc l s W.drew (bZ.on (Fr.ext LL.drew)) dn).mono ?_;rintro e aP ⟨rfl,ar⟩;rw[b0.o];simp only[iU,rp];refine eL hK ?_;clear hK K
    iterate 3 refine tf ?_
    refine ao ?_;refine fj ?_;generalize hV:World.alloc _ _=V;have aN:=aT hV;have bm:Ext W V:=hV▸(Fr.aQ ar).alloc _;have hle:=(Fr.aQ ar).size;clear hV ar;generalize aP.heap.size=df at *;exact key df V ⟨bm,aN,hle⟩
   ·
    refine fj ?_;refine ao ?_;refine cj rfl (λK hK=>?_) rfl;go_simp;generalize hV:World.alloc _ _=V;have aN:=aT hV;have bm:=bb hV;clear hV;refine(dS S ln lc l s V.drew (bZ.on (Fr.ext bm.drew)) dn).mono ?_;rintro e aP ⟨rfl,ar⟩;rw[b0.o];simp only[iU,rp];refine eL hK ?_;clear hK K
    iterate 3 refine tf ?_
    have ca:=aN.aj (Fr.aQ ar);have aF:=bm.trans (Fr.aQ ar);clear aN bm ar;exact key W.heap.size aP ⟨aF,ca,Lb _⟩
  ·
   rintro df V ⟨bm,bV,a4⟩;have cE:=fB.lt;obtain⟨a3,am,aJ⟩:=bV.two;clear a0 ap aj cI;refine ao ?_;refine cj rfl (λK hK=>?_) rfl;go_simp;refine eL hK ?_;clear hK K;refine tf ?_;refine cB ?_;generalize hX:World.setCell _ _ _=X;obtain⟨bw,bq,_⟩:=p5 bV bm a4 hX;have a7:=ad (a8.trans bq);have a1:=ad (T.aj bq);have u:=ad (bl.aj bq);have m:=fB.aj bq;have b2:=ad m;clear hX a3 am aJ bV bm bq;obtain⟨a3,am,aJ⟩:=bw.two;obtain⟨a0,ap,aj⟩:=m.two;clear m;go_upto_region 12 with(fail);generalize b7:World.setCell _ _ _=Y;have bI:=u.lt;have bj:=dj b7;have bJ:an Y (w.heap.size+2) 61 (fp op aX false none 0 0 none 0 0):=b7▸b2.aD 1 _;have bu:Ext w Y:=(Fr.trans (a7.mono λ_ h=>h.elim) bj).low (λb hm=>ab);have ac:=a1.on bj ab;have bA:=u.on bj ab;obtain⟨bX,bS,bM,cl⟩:=iR bu ac bA bJ;have b9:=bw.on bj ab;obtain⟨b8,FA,fn,fc,bD,f3,a5⟩:=cL.o;have cF:F[aX]?=some f:=by have:=cJ.o;simpa using this
   have av:aX<fn:=by have ae:=(List.getElem?_eq_some_iff.1 cF).1;have aD:=a5.1;rw[Lf] at aD;omega
   obtain⟨b5,cG,a9,cs,rfl,bk,bp,H,cV,ci⟩:=a5.gZ nA av;rw[cF] at bp;injection bp with bp;subst bp;obtain⟨PA,pn,pc,bT,bn,fk,rfl,cX,cC,cq,_⟩:=la.1 H;replace f3:=(bu.cell b8 (λh=>h)).trans f3
   have f4:=(bu.cell bk (λh=>h)).trans (ci 1 _ rfl);have U:=bu.size;have cM:b5<Y.heap.size:=Lc bk U;have cz:g<Y.heap.size:=Lc b8 U;have gI:f.params.length=pn:=by rw[<-cq.1,Lf]
   have gH:=ad cq;obtain⟨a3,am,aJ⟩:=b9.two;obtain⟨a0,ap,aj⟩:=ac.two;obtain rfl:n1=pn:=ab;have bQ:=ad (show ku w Y l op aX #[.int .i64 bU,.string s,.int .i64 eo,.int .i64 en,.string es,.slice EA em ec,.string rs,.slice cn cU rc,.slice cy n1 c1,.slice A2 n2 c2,.slice ck n3 c3] aI 0 none 0 0 none 0 0 from
    ⟨bu,ac,bA,bJ,lG.nil _ _ _ _ _ _⟩)
   clear b7 bj bu bA bJ bw a5 H cV ci cq bk a7 a1 u b2 a4 ac b9 bX bS bM cl;go_wp2;refine eU (λ_=>False) [(0,3),(1,3),(2,3),(3,3),(4,0),(5,3),(6,0),(7,3),(8,3),(9,0),(10,3)] ?_
   iterate 4 refine pf ?_
   refine ph ?_;refine pf ?_;refine ph ?_
   iterate 2 refine pf ?_
   refine ph ?_;refine pf ?_;refine aB ?_;clear a3 am aJ f3 f4 cM;go_wp2;clear a0 ap aj;go_loopw [11] (λbc wr=>∃(k:Nat) (IA:LP) (i ic:Nat) (S:LP) (j lc:Nat),k<=n1/\bc=.int .i64 k/\i<=k/\j<=k/\ku w wr l op aX #[.int .i64 bU,.string s,.int .i64 eo,.int .i64 en,.string es,.slice EA em ec,.string rs,.slice cn cU rc,.slice cy n1 c1,.slice A2 n2 c2,.slice ck n3 c3] aI k IA i ic S j lc) (λbc _=>n1 - (intOf bc).toNat)
   case atStart=>exact⟨0,none,0,0,none,0,0,ab,rfl,Lb _,Lb _,⟨bQ.ext.drew,bQ.b4,bQ.b6,bQ.b7,bQ.g2.aj LL.drew⟩⟩
   case round=>
    obtain⟨k,IA,i,ic,S,j,lc,ai,rfl,b1,z,hC⟩:=hrel;clear bQ;have bQ:=ad hC;obtain⟨a0,ap,aj⟩:=hC.b4.two;by_cases aw:k<n1
    .obtain⟨cN,c4,a,cs,rfl,ah,aW,aC,bi,Z⟩:=(bB.on (Fr.ext hC.ext)).gZ sS aw;obtain⟨pb,gN,q,c5,rfl,eM,br,b3,bP,gK⟩:=(gH.on (Fr.ext hC.ext)).gZ rP aw;obtain rfl:=oc.1 b3;have ag:=gK 1 _ rfl;have N:pb<wr.heap.size:=eM;have cb:cN<wr.heap.size:=ah;have HA:=ad aW;rcases nv aR.o br aW with⟨r,rfl,bs,ew⟩|⟨x,rfl,bs,cH⟩
     .rw[bs] at ag;obtain⟨bW,cZ,cW,cQ,cx,zc,rfl,aL⟩:=Dg aC;have c0:=Z 0 _ rfl;have cS:=Z 1 _ rfl;have dD:=Z 2 _ rfl;have bv:=Z 3 _ rfl;have cd:=Z 4 _ rfl;have ce:=Z 5 _ rfl;have ch:=Z 6 _ rfl;simp only[Ll] at c0;have I:=ad aL;clear hC bi Z b3 bP gK eM ah aC aW br aL;go_upto_region 20 with(fail);generalize hV:World.alloc _ _=V;have L:=bb hV;have ak:=aT hV;have aQ:=bQ.b7.aj L;replace ag:=((Fr.rz L).1 pb _ N).trans ag
      replace N:pb<V.heap.size:=Lc N L.size
      have np:=bQ.b7.lt;have cO:=L.size;clear hV a0 ap aj c0 cS dD bv cd ce ch cb;obtain⟨d0,af,aS⟩:=ak.two;obtain⟨a0,ap,aj⟩:=aQ.two;clear aQ ak;go_wp2;refine eU (λ_=>False) [(0,3),(1,0),(2,3),(3,3),(4,3),(5,3),(6,0),(7,3)] ?_;refine pf ?_;refine ph ?_
      iterate 4 refine pf ?_
      refine ph ?_;refine pf ?_;refine aB ?_;clear ag N;go_wp2;refine eU (λ_=>False) [(0,3),(1,0),(2,3),(3,3),(4,0),(5,3),(6,1),(7,1),(8,2),(9,3),(10,2)] ?_;refine pf ?_;refine bH (v:=?_) rfl (by rfl) (λV hV=>?_) ?_;rotate_left
      .obtain⟨hVc,hVf⟩:=Fr.jq hV
       (go_simp<;>with_reducible rfl)
      try simp only[PU]
      iterate 2 refine pf ?_
      refine bH (v:=?_) rfl (by rfl) (λV hV=>?_) ?_;rotate_left
      .obtain⟨hVc,hVf⟩:=Fr.jq hV
       (go_simp<;>with_reducible rfl)
      try simp only[PU]
      refine pf ?_;refine aO rfl (λK hK=>?_);go_simp;refine(dq g l M r ew st bW cZ cW cQ _ (bN.on (bQ.ext.trans L).drew.drew) (dL.on (bQ.ext.trans L).drew.drew) (D.on I.o (Fr.ext L.drew.drew))).mono ?_;rintro e aP ⟨g6,g7,cu,cr,cD,rfl,aU,ar⟩;refine ei hK (ar) ?_;clear hK K;have aF:Ext V aP:=Fr.aQ (Fr.aQ ar);have aH:(ds (mv l r)).rep aP (fresh V aP) [.bool g6,.int .i64 g7,.slice cu cr cD]:=aU;have bm:=L.trans aF;have aZ:=aF.size;have co:∀b,(Value.slice IA i ic).ownBlock=some b->b<V.heap.size:=λb O=>by have:=(bQ.g2.one.lt O).2;omega
      have bO:∀b,(Value.slice S j lc).ownBlock=some b->b<V.heap.size:=λb O=>by have:=(bQ.g2.two.lt O).2;omega
      refine r9 ?_;refine aq rfl (λK hK=>?_);rw[if_pos (by rfl)];refine q2 Hj (.tmp 92) (.tmp 98) (by rfl) (bQ.g2.aj bm).two (ui aH ab bO co) (by rfl) (by rfl) (by rfl) ab ab ab ?_;intro bx bz aV al ay cf bR;have m:=(bQ.b7.aj bm).on ay (λO=>by have:=(bQ.g2.two.lt O).1;omega);have bY:=bG al ay cf bm;clear al ay cf aU aH ar aF bm L a0 ap aj d0 af aS co bO aZ;obtain⟨a0,ap,aj⟩:=m.two;clear m;refine eL hK ?_;clear hK K;refine pf ?_;refine aq rfl (λK hK=>?_);go_simp;refine eL hK ?_;clear hK K;refine aB ?_;clear a0 ap aj;generalize hX:World.setCell aV _ _=cA;have ax:=ad (bQ.place bY.2.2.2 HA.o bY.1 bY.2.1 bY.2.2.1 hX);clear hX;go_wp2;go_roundw
      case rel=>exact⟨k+1,IA,i,ic,bx,j+1,bz,ab,by go_num,ab,ab,ax.o⟩
      case measure=>exact az
     .rw[bs] at ag;obtain⟨cx,cp,zc,da,cr,xs,cu,c8,cD,rfl,aL⟩:=De aC;have c0:=Z 0 _ rfl;have cS:=Z 1 _ rfl;have dD:=Z 2 _ rfl;have bv:=Z 3 _ rfl;have cd:=Z 4 _ rfl;have ce:=Z 5 _ rfl;have ch:=Z 6 _ rfl;simp only[Ll] at c0;have I:=ad aL;clear hC bi Z b3 bP gK eM ah aC aW br aL;go_upto_region 20 with(fail);generalize hV:World.alloc _ _=V;have L:=bb hV;have ak:=aT hV;have aQ:=bQ.b7.aj L;replace ag:=((Fr.rz L).1 pb _ N).trans ag
      replace N:pb<V.heap.size:=Lc N L.size
      have np:=bQ.b7.lt;have cO:=L.size;clear hV a0 ap aj c0 cS dD bv cd ce ch cb;obtain⟨d0,af,aS⟩:=ak.two;obtain⟨a0,ap,aj⟩:=aQ.two;clear aQ ak;go_wp2;refine eU (λ_=>False) [(0,3),(1,0),(2,3),(3,3),(4,3),(5,3),(6,0),(7,3)] ?_;refine pf ?_;refine ph ?_
      iterate 4 refine pf ?_
      refine ph ?_;refine pf ?_;refine aB ?_;clear ag N;go_wp2;refine eU (λ_=>False) [(0,3),(1,0),(2,3),(3,3),(4,0),(5,3),(6,1),(7,1),(8,2),(9,3),(10,2)] ?_;refine pf ?_;refine bH (v:=?_) rfl (by rfl) (λV hV=>?_) ?_;rotate_left
      .obtain⟨hVc,hVf⟩:=Fr.jq hV
       (go_simp<;>with_reducible rfl)
      try simp only[PU]
      iterate 2 refine pf ?_
      refine bH (v:=?_) rfl (by rfl) (λV hV=>?_) ?_;rotate_left
      .obtain⟨hVc,hVf⟩:=Fr.jq hV
       (go_simp<;>with_reducible rfl)
      try simp only[PU]
      refine pf ?_;refine aO rfl (λK hK=>?_);go_simp;refine(fZ l x cH g st _ _ _ _ _ _ _ (bN.on (bQ.ext.trans L).drew.drew) (D.on I.o (Fr.ext L.drew.drew))).mono ?_;rintro e aP ⟨c6,cR,a2,cK,c9,cT,rfl,aU,ar⟩;refine ei hK (ar) ?_;clear hK K;have aF:Ext V aP:=Fr.aQ (Fr.aQ ar);have aH:(bf (bC l x)).rep aP (fresh V aP) [.int .i64 c6,.int .i64 cR,.string a2,.slice cK c9 cT]:=aU;have bm:=L.trans aF;have aZ:=aF.size;have co:∀b,(Value.slice IA i ic).ownBlock=some b->b<V.heap.size:=λb O=>by have:=(bQ.g2.one.lt O).2;omega
      have bO:∀b,(Value.slice S j lc).ownBlock=some b->b<V.heap.size:=λb O=>by have:=(bQ.g2.two.lt O).2;omega
      refine r9 ?_;refine aq rfl (λK hK=>?_);rw[if_pos (by rfl)];refine q2 pI (.tmp 102) (.tmp 108) (by rfl) (bQ.g2.aj bm).one (ui aH ab co bO) (by rfl) (by rfl) (by rfl) ab ab ab ?_;intro aY n aV al ay cf bR;have m:=(bQ.b7.aj bm).on ay (λO=>by have:=(bQ.g2.one.lt O).1;omega);have bY:=bG al ay cf bm;clear al ay cf aU aH ar aF bm L a0 ap aj d0 af aS co bO aZ;obtain⟨a0,ap,aj⟩:=m.two;clear m;refine eL hK ?_;clear hK K;refine pf ?_;refine aq rfl (λK hK=>?_);go_simp;refine eL hK ?_;clear hK K;refine aB ?_;clear a0 ap aj;generalize hX:World.setCell aV _ _=cA;have ax:=ad (bQ.int bY.2.2.2 HA.o bY.1 bY.2.1 bY.2.2.1 hX);clear hX;go_wp2;go_roundw
      case rel=>exact⟨k+1,aY,i+1,n,S,j,lc,ab,by go_num,ab,ab,ax.o⟩
      case measure=>exact az
    .obtain rfl:k=n1:=ab;have aQ:=hC.b7;have a6:=hC.b6;clear hC a0 ap aj;obtain⟨a0,ap,aj⟩:=aQ.two;obtain⟨d0,af,aS⟩:=a6.two;clear aQ;go_wp2;generalize hX:World.setCell _ _ _=cA;obtain⟨cg,b4,ct⟩:=cm (fp op aX false IA i ic S j lc).toList (by rfl) a6 bQ.ext ab hX;clear hX a0 ap aj d0 af aS;obtain⟨bE,bg,bh⟩:=cg.two;refine LK (v:=.agg (fp op aX false IA i ic S j lc)) (by simp[results,Tryz.results135,go_sem,bE]) rfl ?_;have hG:=bQ.g2.cS ct λb O _=>ab;have e8:=ct.size;rw[Lj ab] at hG;refine⟨IA,i,ic,S,j,lc,rfl,?_,b4⟩;exact jA (hG.one.sl (λb ae aD=>⟨by have:=aD.1;omega,ae⟩) (λb ae aD=>⟨ab,ae⟩)) (hG.two.sl (λb ae aD=>⟨by have:=aD.1;omega,ae⟩) (λb ae aD=>⟨ab,ae⟩)) hG.one.cap.1 hG.two.cap.1
end Go.Proofs.YtflecliffjbleaaGreat
