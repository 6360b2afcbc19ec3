/- Part 23 of the proof. No condition of its own. -/
import Derived.Test.YtbkhhfajcgkpgaaGreatQ22
namespace Go.Proofs.YtbkhhfajcgkpgaaGreat
open Go.RowKit Go.Proofs.Tryz
set_option maxRecDepth 1000000
set_option maxHeartbeats 25600000
set_option linter.unusedVariables false
variable{cs:List Value}{P:Nat→Prop}{r:eF}
structure yI(w:World)(g:Nat)(F:List az):Prop where
 lt:g<w.heap.size
 ex:∃A n c,n≤1000000∧w.cell? ⟨g,2,none⟩=some (.slice A n c)∧Sl w (au w) A n (F.map dd)
theorem yI.on{w ac:World}{g:Nat}{F:List az}(h:yI w g F)(O:Ext w ac):yI ac g F:=by
 exact Cb
theorem kL{w:World}{f:az}:(dd f).rep w P cs↔∃A n c B m k,cs=[.string f.name,.slice A n c,.slice B m k]∧n≤c∧m≤k∧Sl w P A n (f.params.map df)∧Sl w P B m (cP f.body):=by
 unfold dd;rw[bu,b9];constructor
 ·rintro⟨y,rfl,h⟩;obtain⟨A,n,c,cr,rfl,hc,hs,h⟩:=aD.1 h;obtain⟨B,m,k,bm,rfl,aj,O,h⟩:=aD.1 h;rw[aJ] at h;subst h;exact⟨A,n,c,B,m,k,rfl,hc,aj,hs,O⟩
 ·rintro⟨A,n,c,B,m,k,rfl,hc,aj,hs,O⟩;exact⟨_,rfl,aD.2 ⟨A,n,c,_,rfl,hc,hs,aD.2 ⟨B,m,k,[],rfl,aj,O,aJ.2 rfl⟩⟩⟩
theorem mV(f:az):(dd f).sz=3:=rfl
theorem q0(q:ByteArray×Bool):(df q).sz=2:=rfl
theorem nB{w:World}{q:ByteArray×Bool}:(df q).rep w P cs↔cs=[.string q.1,.bool q.2]:=by
 unfold df;rw[bu,b9];constructor
 ·rintro⟨y,rfl,h⟩;obtain⟨bm,rfl,aC⟩:=eX.1 h;rw[aJ] at aC;subst aC;rfl
 ·rintro rfl;exact⟨_,rfl,eX.2 ⟨_,rfl,aJ.2 rfl⟩⟩
theorem Gh:bX prog 60 59 (.agg #[.bool false,.int .i64 0,.slice none 0 0]) 3 40:=bX.mk' Tryz.underlying60 (by kernel_rfl) rfl ab
abbrev eH(op t:Int)(g:Bool)(IA:Kr)(i ic:Nat)(bj:Kr)(k lc:Nat):Array Value:=
 #[.int .i64 op,.int .i64 t,.bool g,.int .i64 0,.int .i64 0,.string ⟨#[]⟩,.slice none 0 0,.bool false,.int .i64 0,.slice none 0 0,.slice IA i ic,.slice bj k lc]
theorem Cy{w:World}(h:(gu (.mx r)).rep w P cs):∃s A n c A2 c2,cs=[.bool true,.string s,.slice A n c,.int .i64 0,.int .i64 0,.string ⟨#[]⟩,.slice A2 0 c2]∧(km r).rep w P [.string s,.slice A n c]:=by
 exact Fu
namespace Be
theorem u0{p:Prop}(h:p:=by
 obtain⟨A,n,c,a9,rfl,_,_,bi⟩:=aD.1 hx;rw[aJ] at bi;subst bi;rw[D.bj] at a4;obtain⟨A2,cU,c2,rfl,_,_⟩:=aV.1 a4;exact⟨_,_,_,_,_,_,_,_,_,rfl,a4⟩
 ):p:=h
end Be
open Be in
theorem Cw{w:World}{e:VE}(h:(gu (.ex e)).rep w P cs):∃cj bc rc op n s A m c,cs=[.bool false,.string ⟨#[]⟩,.slice cj bc rc,.int .i64 op,.int .i64 n,.string s,.slice A m c]∧(bb e).rep w P [.int .i64 op,.int .i64 n,.string s,.slice A m c]:=by
 exact uZ
theorem p9{w:World}{l:List D}(h:D.aI w P l cs):D.aI w P (jA::l) (.int .i64 0::.int .i64 0::.string ⟨#[]⟩::.slice none 0 0::cs):=
 dq.2 ⟨[.int .i64 0,.int .i64 0,.string ⟨#[]⟩,.slice none 0 0],cs,rfl,eT.2 ⟨none,0,rfl⟩,h⟩
theorem nR{w:World}{l:List D}(h:D.aI w P l cs):D.aI w P (de j0::l) (.bool false::.int .i64 0::.slice none 0 0::cs):=
 dq.2 ⟨[.bool false,.int .i64 0,.slice none 0 0],cs,rfl,ej.2 ⟨none,0,0,rfl,JQ _,Sl.bG _⟩,h⟩
theorem jj{w:World}{op t:Int}{g:Bool}{is:List VE}{ps:List bC}{IA:Kr}{i ic:Nat}{bj:Kr}{k lc:Nat}(ae:Sl w P IA i (is.map bb))(aC:Sl w P bj k (ps.map de))(c1:i≤ic)(c2:k≤lc):
  (dP ⟨op,t,g,none,j0,is,ps⟩).rep w P (eH op t g IA i ic bj k lc).toList:=by
 unfold dP;rw[bu];exact aZ.2 ⟨_,rfl,aZ.2 ⟨_,rfl,eX.2 ⟨_,rfl,p9 (nR (aD.2 ⟨IA,i,ic,_,rfl,c1,ae,aD.2 ⟨bj,k,lc,[],rfl,c2,aC,aJ.2 rfl⟩⟩))⟩⟩⟩
theorem u6:bX prog 113 62 (.agg (eH 0 0 false none 0 0 none 0 0)) 12 168:=bX.mk' Tryz.underlying113 (by kernel_rfl) rfl ab
structure cB(w:World)(g B:Nat)(M:List bA)(F:List az)(l:List dz)(bj:Kr)(ln lc:Nat)(n:Int)(st:Nat)(code:List ay)(sites:List Int)(bI:Kr)(bO:Nat)(bp:Kr)(a7:Nat):Prop where
 blk:∃GA gn gc MA mn mc FA fn fc,af w g 198 #[.slice GA gn gc,.slice MA mn mc,.slice FA fn fc,.slice bj ln lc,.int .i64 n,.int .i64 st,.int .i64 0,.int .i64 0,.slice bI code.length bO,.slice bp sites.length a7]∧mn≤1000000∧fn≤1000000∧
  Sl w (off (Ms g (.slice bI code.length bO) (.slice bp sites.length a7)) w) MA mn (M.map dZ)∧Sl w (off (Ms g (.slice bI code.length bO) (.slice bp sites.length a7)) w) FA fn (F.map dd)
 base:g<B∧B≤w.heap.size
 names:ln≤1000000∧Sl w (off (Ms g (.slice bI code.length bO) (.slice bp sites.length a7)) w) bj ln (l.map bN)
 rows:k4 B 62 12 3 1 w bI code.length bO (code.map dP) bp sites.length a7 (sites.map D.i)
section
variable {w ac aN aO bU ci X:World} {g B:Nat} {M:List bA} {F:List az} {l:List dz} {bj:Kr} {ln lc:Nat} {n:Int} {st:Nat} {code:List ay} {sites:List Int} {bI:Kr} {bO:Nat} {bp:Kr} {a7:Nat}
theorem cB.lt(h:cB w g B M F l bj ln lc n st code sites bI bO bp a7):g<w.heap.size:=by
 obtain⟨GA,gn,gc,MA,mn,mc,FA,fn,fc,aL,_⟩:=h.blk;exact aL.lt
theorem cB.L(h:cB w g B M F l bj ln lc n st code sites bI bO bp a7):s4 w g l:=by
 obtain⟨GA,gn,gc,MA,mn,mc,FA,fn,fc,aL,_⟩:=h.blk;exact⟨aL.lt,bj,ln,lc,h.names.1,aL.cell 3,h.names.2.mono fun b O=>O.1⟩
theorem cB.M_(h:cB w g B M F l bj ln lc n st code sites bI bO bp a7):xz w g M:=by
 obtain⟨GA,gn,gc,MA,mn,mc,FA,fn,fc,aL,ae,aC,aT,a9⟩:=h.blk;exact⟨aL.lt,MA,mn,mc,ae,aL.cell 1,aT.mono fun b O=>O.1⟩
theorem cB.F_(h:cB w g B M F l bj ln lc n st code sites bI bO bp a7):yI w g F:=by
 obtain⟨GA,gn,gc,MA,mn,mc,FA,fn,fc,aL,ae,aC,aT,a9⟩:=h.blk;exact⟨aL.lt,FA,fn,fc,aC,aL.cell 2,a9.mono fun b O=>O.1⟩
theorem cB.ak(h:cB w g B M F l bj ln lc n st code sites bI bO bp a7)(he:Ext w ac):cB ac g B M F l bj ln lc n st code sites bI bO bp a7:=by
 obtain⟨GA,gn,gc,MA,mn,mc,FA,fn,fc,aL,ae,aC,aT,a9⟩:=h.blk;exact⟨⟨GA,gn,gc,MA,mn,mc,FA,fn,fc,aL.ak he,ae,aC,aT.cG (Mv.gR he),a9.cG (Mv.gR he)⟩,⟨h.base.1,J7 h.base.2 he.size⟩,⟨h.names.1,h.names.2.cG (Mv.gR he)⟩,h.rows.ak he⟩
abbrev IQ(B g:Nat)(cv sv:Value)(w:World):Nat→Prop:=fun b=>B≤b∧off (Ms g cv sv) w b
theorem cB.added(h:cB w g B M F l bj ln lc n st code sites bI bO bp a7){x:ay}{s:Int}{J an:Kr}{Y aB:Nat}(e1:Ext w aN)
  (ae:Gr (fun b=>B≤b∧(Value.slice bp sites.length a7).ownBlock≠some b) B 62 12 aO J (code.length+1) Y (code.map dP++[dP x])) (f1:Fr (fun b=>(Value.slice bI code.length bO).ownBlock=some b) aN aO) (o1:dc aN bI code.length bO J (code.length+1) Y)
  (e2:Ext aO bU) (aC:Gr (fun b=>B≤b∧(Value.slice J (code.length+1) Y).ownBlock≠some b) B 3 1 ci an (sites.length+1) aB (sites.map D.i++[D.i s])) (f2:Fr (fun b=>(Value.slice bp sites.length a7).ownBlock=some b) bU ci) (eN:dc bU bp sites.length a7 an (sites.length+1) aB)
  (hX:(ci.setCell ⟨g,8,none⟩ (.slice J (code.length+1) Y)).setCell ⟨g,9,none⟩ (.slice an (sites.length+1) aB)=X) :
  cB X g B M F l bj ln lc n st (code++[x]) (sites++[s]) J Y an aB∧Mv g (.slice bI code.length bO) (.slice bp sites.length a7) w (.slice J (code.length+1) Y) (.slice an (sites.length+1) aB) X:=by
 have aw:=h.lt;have bZ:Fr (fun b=>b=g) ci X:=hX▸((Fr.refl (fun b=>b=g) ci).setCell (.inl rfl) _).setCell (.inl rfl) _;have s1:=e1.size;have s2:=f1.size;have aj:=e2.size;have hM:Mv g (.slice bI code.length bO) (.slice bp sites.length a7) w (.slice J (code.length+1) Y) (.slice an (sites.length+1) aB) X:=by
  refine⟨Fr.trans (Fr.mono e1 fun _ h=>h.elim) (Fr.trans (f1.mono fun b O=>.inr (.inl O)) (Fr.trans (Fr.mono e2 fun _ h=>h.elim) (Fr.trans (f2.mono fun b O=>.inr (.inr O)) (bZ.mono fun b O=>.inl O)))),fun b O hm=>?_⟩;rcases hm with hm|hm|hm
  ·exact .inl hm
  ·rcases o1 b hm with ae|ae
   ·exact .inr (.inl ae)
   ·omega
  ·rcases eN b hm with ae|ae
   ·exact .inr (.inr ae)
   ·omega
 refine⟨?_,hM⟩;obtain⟨GA,gn,gc,MA,mn,mc,FA,fn,fc,aL,b5,bE,cx,H⟩:=h.blk;have a:∀b,(Value.slice bI code.length bO).ownBlock=some b→g<b:=fun b O=>JR h.base.1 (h.rows.one.lt O).1;have v:∀b,(Value.slice bp sites.length a7).ownBlock=some b→g<b:=fun b O=>JR h.base.1 (h.rows.two.lt O).1;have bG:af ci g _ _:=(((aL.ak e1).on f1 fun O=>by have:=a _ O;omega).ak e2).on f2 fun O=>by have:=v _ O;omega
 have au:k4 B 62 12 3 1 bU J (code.length+1) Y (code.map dP++[dP x]) bp sites.length a7 (sites.map D.i):=((h.rows.ak e1).grow ae f1 o1).ak e2;have m:=(au.swap.grow aC f2 eN).swap;refine⟨⟨GA,gn,gc,MA,mn,mc,FA,fn,fc,?_,b5,bE,?_,?_⟩,⟨h.base.1,J7 h.base.2 hM.fr.size⟩,⟨h.names.1,?_⟩,?_⟩
 ·rw[←hX,JS,JS];exact(bG.aC 8 _).aC 9 _
 ·rw[JS,JS];exact cx.cG hM
 ·rw[JS,JS];exact H.cG hM
 ·rw[JS,JS];exact h.names.2.cG hM
 ·rw[JX,JX,JS,JS];exact m.cO bZ fun b O _=>by have:=h.base.1;omega
end
def F6(w:World)(g B:Nat)(M:List bA)(F:List az)(l:List dz)(bj:Kr)(ln lc:Nat)(n:Int)(st:Nat)(code:List ay)(sites:List Int)(bI:Kr)(bO:Nat)(bp:Kr)(a7:Nat)(x:ay)(s:Int)(e:Ending)(ac:World):Prop:=
 e=.returned (.int .i64 code.length)∧∃J Y an aB,cB ac g B M F l bj ln lc n st (code++[x]) (sites++[s]) J Y an aB∧Mv g (.slice bI code.length bO) (.slice bp sites.length a7) w (.slice J (code.length+1) Y) (.slice an (sites.length+1) aB) ac
theorem gK{w:World}{g B:Nat}{M:List bA}{F:List az}{l:List dz}{bj:Kr}{ln lc:Nat}{n:Int}{st:Nat}{code:List ay}{sites:List Int}{bI:Kr}{bO:Nat}{bp:Kr}{a7:Nat}(h:cB w g B M F l bj ln lc n st code sites bI bO bp a7)
  (x:ay) (s:Int) {op t:Int} {gl:Bool} {eo en:Int} {es:ByteArray} {EA:Kr} {em ec:Nat} {pb:Bool} {pi:Int} {PA:Kr} {pm pc:Nat} {IA:Kr} {i ic:Nat} {KA:Kr} {k kc:Nat}
  (hx:(dP x).rep w (IQ B g (.slice bI code.length bO) (.slice bp sites.length a7) w) [.int .i64 op,.int .i64 t,.bool gl,.int .i64 eo,.int .i64 en,.string es,.slice EA em ec,.bool pb,.int .i64 pi,.slice PA pm pc,.slice IA i ic,.slice KA k kc])
  (ae:code.length≤100000) (aC:sites.length≤100000) :
  Calls prog 116 #[.pointer (some ⟨g,0,none⟩),.agg #[.int .i64 op,.int .i64 t,.bool gl,.int .i64 eo,.int .i64 en,.string es,.slice EA em ec,.bool pb,.int .i64 pi,.slice PA pm pc,.slice IA i ic,.slice KA k kc],.int .i64 s] w
   (F6 w g B M F l bj ln lc n st code sites bI bO bp a7 x s):=by
 obtain⟨H,aP⟩:=aM h hx;obtain⟨GA,gn,gc,MA,mn,mc,FA,fn,fc,aL,_⟩:=h.blk;have bs:=ad aL;clear h hx aL;go_enter func116,ntmps116;go_upto_region 1 with(fail);generalize bg:World.alloc _ _=W;have aF:Ext w W:=bg▸Kn.alloc _;have bH:af W w.heap.size 62 #[.int .i64 op,.int .i64 t,.bool gl,.int .i64 eo,.int .i64 en,.string es,.slice EA em ec,.bool pb,.int .i64 pi,.slice PA pm pc,.slice IA i ic,.slice KA k kc]:=bg▸Ko;clear bg;obtain⟨a2,dJ⟩:=aM aF bH;obtain⟨a0,ap,ak⟩:=bH.two;obtain⟨a6,am,aI⟩:=(bs.ak aF).two;have dO:=bs.lt;have nH:=aF.size;have c7:=H.base.1;have m:=H.base.2;clear aF bH;have bb:¬(Value.slice bI code.length bO).ownBlock=some g:=fun O=>by have:=(H.rows.one.lt O).1;omega
 have aT:¬(Value.slice bI code.length bO).ownBlock=some w.heap.size:=fun O=>by have:=(H.rows.one.lt O).2;omega
 have aJ:∀b,(Value.slice bI code.length bO).ownBlock=some b→b<W.heap.size:=fun b O=>by have:=(H.rows.one.lt O).2;omega
 have y:∀b,(Value.slice bp sites.length a7).ownBlock=some b→b<W.heap.size:=fun b O=>by have:=(H.rows.two.lt O).2;omega
 have u:(dP x).rep W (lg (fun b=>B≤b∧(Value.slice bp sites.length a7).ownBlock≠some b) W (.slice bI code.length bO)) _:=
  D.aF (fun b O=>⟨⟨O.1,fun hc=>O.2.2 (.inr (.inr hc))⟩,JR O.2.1 nH,fun hc=>O.2.2 (.inr (.inl hc))⟩) _ _ (D.aN (fun b O=>a2.block b O.2.1 fun h=>h) _ _ aP.o)
 have o:=H.rows.ak a2.o;obtain⟨j,ag⟩:=aM u o;clear u o;refine tX (fun b=>(Value.slice bI code.length bO).ownBlock=some b) [15,18,21] (.free 0 (.free 1 (.free 2 (.free 3 (.free 4 (.held 5 (.held 6 (.free 9 (.free 10 (.free 11 (.held 12 (.free 13 (.pick [7,14] (fun i=>bif i == 7 then .pick [8,14] (fun i=>bif i == 8 then .pick [14] (fun _=>.pick [15] (fun _=>.free 16 (.free 17 (.pick [18] (fun _=>.free 19 (.free 20 (.pick [21] (fun _=>.stop)))))))) else .pick [8] (fun _=>.pick [15] (fun _=>.free 16 (.free 17 (.pick [18] (fun _=>.free 19 (.free 20 (.pick [21] (fun _=>.stop))))))))) else .pick [7] (fun _=>.pick [8] (fun _=>.pick [15] (fun _=>.free 16 (.free 17 (.pick [18] (fun _=>.free 19 (.free 20 (.pick [21] (fun _=>.stop))))))))))))))))))))))) ?_
 iterate 5 refine tf ?_
 iterate 2 refine n8 ?_
 iterate 3 refine tf ?_
 refine n8 ?_;refine tf ?_;refine ix (P:=?P1) (ops:=?o1) (Q:=?q1) (R:=?r1) (tails:=?t1) (rest:=.pick [15] (fun _=>.free 16 (.free 17 (.pick [18] (fun _=>.free 19 (.free 20 (.pick [21] (fun _=>.stop)))))))) (aa:=?JB)
  (C:=fun(_:Nat) bm A2 c2 V=>True∧∃aN aO,Ext W aN∧Gr (fun b=>B≤b∧(Value.slice bp sites.length a7).ownBlock≠some b) B 62 12 aO A2 (code.length+1) c2 (code.map dP++[dP x])∧Fr (fun b=>(Value.slice bI code.length bO).ownBlock=some b) aN aO∧dc aN bI code.length bO A2 (code.length+1) c2∧Ext aO V∧af V bm 3 #[.int .i64 s]) (fun key=>?HE) ?Ii
 case HE=>
  refine bq ?_ ?_
  ·
   refine eZ ?_;generalize hV:World.drew (World.alloc _ _)=c3;have e1:Ext W c3:=hV▸(Kn.alloc _).drew;have dw:af c3 W.heap.size 62 #[.int .i64 op,.int .i64 t,.bool gl,.int .i64 eo,.int .i64 en,.string es,.slice EA em ec,.bool pb,.int .i64 pi,.slice PA pm pc,.slice IA i ic,.slice KA k kc]:=hV▸Ko;clear hV;refine bq ?_ ?_
   ·
    refine aE rfl (fun K hK=>?_) rfl;rw[if_pos (by rfl)];refine eO u6 (.tmp 12) (.tmp 14) (by rfl) (ag.ak e1).one dw (vr j.o e1) (by rfl) (by rfl) (by rfl) ab ab (aH e1.size) ?_;intro J Y aO b7 f1 o1 c1;refine dW hK (f1) ?_;clear hK K;refine ao ?_;refine eZ ?_;have F:True∧∃aN f,Ext W aN∧Gr (fun b=>B≤b∧(Value.slice bp sites.length a7).ownBlock≠some b) B 62 12 f J (code.length+1) Y (code.map dP++[dP x])∧Fr (fun b=>(Value.slice bI code.length bO).ownBlock=some b) aN f∧dc aN bI code.length bO J (code.length+1) Y∧Ext f (aO.alloc (.cells #[.int .i64 s] 3))∧af (aO.alloc (.cells #[.int .i64 s] 3)) (aO.heap.size) 3 #[.int .i64 s]:=
     ⟨trivial,c3,aO,e1,b7,f1,o1,Kn.alloc _,Ko⟩
    clear b7 o1;revert F;generalize aO.heap.size=bm;generalize W.heap.size=df;intro F;exact key df bm J Y _ F
   ·
    refine eZ ?_;generalize hV:World.alloc _ _=z;have a8:af z c3.heap.size 3 #[.int .i64 s]:=hV▸Ko;have aS:=by have:=dw.alloc (.cells #[.int .i64 s] 3);rw[hV] at this;exact this
    have e2:Ext W z:=hV▸e1.alloc _;clear hV dw;refine ao ?_;refine aE rfl (fun K hK=>?_) rfl;rw[if_pos (by rfl)];refine eO u6 (.tmp 12) (.tmp 14) (by rfl) (ag.ak e2).one aS (vr j.o e2) (by rfl) (by rfl) (by rfl) ab ab (aH e2.size) ?_;intro J Y aO b7 f1 o1 c1;refine dW hK (f1) ?_;clear hK K;have a1:¬(Value.slice bI code.length bO).ownBlock=some c3.heap.size:=fun O=>by have:=aJ _ O;have:=e1.size;omega
    have F:True∧∃aN f,Ext W aN∧Gr (fun b=>B≤b∧(Value.slice bp sites.length a7).ownBlock≠some b) B 62 12 f J (code.length+1) Y (code.map dP++[dP x])∧Fr (fun b=>(Value.slice bI code.length bO).ownBlock=some b) aN f∧dc aN bI code.length bO J (code.length+1) Y∧Ext f aO∧af aO (c3.heap.size) 3 #[.int .i64 s]:=
     ⟨trivial,z,aO,e2,b7,f1,o1,Kn,a8.on f1 a1⟩
    clear b7 o1;revert F;generalize c3.heap.size=bm;generalize W.heap.size=df;intro F;exact key df bm J Y _ F
  ·
   refine eZ ?_;generalize hV:World.drew (World.alloc _ _)=c3;have a8:af c3 W.heap.size 3 #[.int .i64 s]:=hV▸Ko;have e1:Ext W c3:=hV▸(Kn.alloc _).drew;clear hV;refine ao ?_;refine eZ ?_;generalize hV:World.alloc _ _=z;have e2:Ext W z:=hV▸e1.alloc _;have dw:af z c3.heap.size 62 #[.int .i64 op,.int .i64 t,.bool gl,.int .i64 eo,.int .i64 en,.string es,.slice EA em ec,.bool pb,.int .i64 pi,.slice PA pm pc,.slice IA i ic,.slice KA k kc]:=hV▸Ko;have aU:af z W.heap.size 3 #[.int .i64 s]:=hV▸a8.alloc _;clear hV;refine ao ?_;refine aE rfl (fun K hK=>?_) rfl;rw[if_pos (by rfl)];refine eO u6 (.tmp 12) (.tmp 14) (by rfl) (ag.ak e2).one dw (vr j.o e2) (by rfl) (by rfl) (by rfl) ab ab (aH e2.size) ?_;intro J Y aO b7 f1 o1 c1;refine dW hK (f1) ?_;clear hK K;have a1:¬(Value.slice bI code.length bO).ownBlock=some W.heap.size:=fun O=>by have:=aJ _ O;omega
   have F:True∧∃aN f,Ext W aN∧Gr (fun b=>B≤b∧(Value.slice bp sites.length a7).ownBlock≠some b) B 62 12 f J (code.length+1) Y (code.map dP++[dP x])∧Fr (fun b=>(Value.slice bI code.length bO).ownBlock=some b) aN f∧dc aN bI code.length bO J (code.length+1) Y∧Ext f aO∧af aO (W.heap.size) 3 #[.int .i64 s]:=
    ⟨trivial,z,aO,e2,b7,f1,o1,Kn,aU.on f1 a1⟩
   clear b7 o1;revert F;generalize W.heap.size=bm;generalize c3.heap.size=df;intro F;exact key df bm J Y _ F
 case Ii=>
  rintro df bm J Y V ⟨v,aN,aO,e1,b7,f1,o1,e2,a8⟩;have s1:=e1.size;have s2:=f1.size;have aj:=e2.size;have hG:k4 B 62 12 3 1 V J (code.length+1) Y (code.map dP++[dP x]) bp sites.length a7 (sites.map D.i):=((ag.ak e1).grow b7 f1 o1).ak e2;have bV:af V g _ _:=(((bs.ak a2.o).ak e1).on f1 bb).ak e2;have r:¬(Value.slice bp sites.length a7).ownBlock=some g:=fun O=>by have:=(H.rows.two.lt O).1;omega
  clear a0 ap ak a6 am aI;refine ao ?_;refine bS rfl (fun K hK=>?_) rfl;rw[if_pos (by rfl)];refine eO dm (.tmp 19) (.tmp 21) (by rfl) hG.two a8 (show (D.i s).rep V _ _ from by simp only[D.rep]) (by rfl) (by rfl) (by rfl) ab ab ab ?_;intro an aB ci g2 f2 eN c2;have bW:=aQ g2 f2 eN;have bG:=bV.on f2 r;have cn:=dA e1 b7 f1 o1 e2;clear g2 f2 eN bV a8 e1 b7 f1 o1 e2 hG;obtain⟨a6,am,aI⟩:=bG.two;refine eD hK ?_;clear hK K
  iterate 2 refine tf ?_
  refine ao ?_;refine bS rfl (fun K hK=>?_) rfl;go_simp;refine eD hK ?_;clear hK K
  iterate 2 refine tf ?_
  refine ao ?_;refine bS rfl (fun K hK=>?_) rfl;go_simp;refine eD hK ?_;clear hK K;refine cw ?_;generalize hX:World.setCell _ _ _=X;obtain⟨e1,b7,f1,o1,e2⟩:=cn.o;obtain⟨hS,hM⟩:=cB.added H.o (a2.trans e1) b7 f1 o1 e2 bW.1 bW.2.1 bW.2.2 hX;have bu:=ai hS hM;obtain⟨ee,cg,bw,eh,gj,er,cR,fU,cM,bh,_⟩:=hS.blk;clear hX a6 am aI bG hS hM e1 b7 f1 o1 e2;obtain⟨a6,am,aI⟩:=bh.two;go_wp2;go_ret;refine⟨ret_int ?_,J,Y,an,aB,?_⟩
  ·simp
  ·exact bu.o
def DP(w:World)(x:ay)(e:Ending)(ac:World):Prop:=
 ∃(IA:Kr) (i ic:Nat) (bj:Kr) (k lc:Nat),e=.returned (.agg (eH x.op x.target x.c8 IA i ic bj k lc))∧(dP x).rep ac (fresh w ac) (eH x.op x.target x.c8 IA i ic bj k lc).toList∧Ext w ac
structure ka(w wr:World)(l:List dz)(op av:Int)(aM:Array Value)(aS:List da)(k:Nat)(IA:Kr)(i ic:Nat)(bj:Kr)(j lc:Nat):Prop where
 ext:Ext w wr
 b4:af wr w.heap.size 192 aM
 b6:af wr (w.heap.size+1) 62 (eH 0 0 false none 0 0 none 0 0)
 b7:af wr (w.heap.size+2) 62 (eH op av false IA i ic bj j lc)
 g2:k4 (w.heap.size+3) 57 4 59 3 wr IA i ic ((bF l (aS.take k)).map bb) bj j lc ((cm l (aS.take k)).map de)
section
variable {w wr aN aO X:World} {l:List dz} {op av:Int} {aM:Array Value} {aS:List da} {k:Nat} {IA:Kr} {i ic:Nat} {bj:Kr} {j lc:Nat}
theorem nD{own:Nat→Prop}{g:Nat}(h:Ext w wr)(he:Ext wr aN)(aD:Fr own aN aO)(S:∀b,own b→w.heap.size≤b)(aJ:w.heap.size≤g)(hX:Fr (fun b=>b=g) aO X):Ext w X:=by
 have e1:Fr (fun b=>w.heap.size≤b) w X:=Fr.trans (Fr.mono h fun _ h=>h.elim) (Fr.trans (Fr.mono he fun _ h=>h.elim) (Fr.trans (aD.mono S) (hX.mono fun b O=>by subst O;exact aJ)));exact e1.low fun _ h=>h
theorem ka.place(h:ka w wr l op av aM aS k IA i ic bj j lc)(he:Ext wr aN)(aV:aS[k]?=some (.mx r)){aX:Kr}{aY:Nat}
  (aJ:Gr (fun b=>w.heap.size+3≤b∧(Value.slice IA i ic).ownBlock≠some b) (w.heap.size+3) 59 3 aO aX (j+1) aY ((cm l (aS.take k)).map de++[de (lT l r)]))
  (aD:Fr (fun b=>(Value.slice bj j lc).ownBlock=some b) aN aO) (a8:dc aN bj j lc aX (j+1) aY) (hX:aO.setCell ⟨w.heap.size+2,11,none⟩ (.slice aX (j+1) aY)=X) :
  ka w X l op av aM aS (k+1) IA i ic aX (j+1) aY:=by
 have bZ:Fr (fun b=>b=w.heap.size+2) aO X:=hX▸(Fr.refl (fun b=>b=w.heap.size+2) aO).setCell (.inl rfl) _;have aw:∀b,(Value.slice bj j lc).ownBlock=some b→w.heap.size+3≤b:=fun b O=>(h.g2.two.lt O).1;refine⟨nD h.ext he aD (fun b O=>by have:=aw b O;omega) ab bZ,?_,?_,?_,?_⟩
 ·exact((h.b4.ak he).on aD fun O=>by have:=aw _ O;omega).on bZ ab
 ·exact((h.b6.ak he).on aD fun O=>by have:=aw _ O;omega).on bZ ab
 ·rw[←hX];exact((h.b7.ak he).on aD fun O=>by have:=aw _ O;omega).aC 11 _
 ·have e1:bF l (aS.take (k+1))=bF l (aS.take k):=by rw[a9 aV,(hr l _ _).1];simp[bF]
  have e2:(cm l (aS.take (k+1))).map de=(cm l (aS.take k)).map de++[de (lT l r)]:=by rw[a9 aV,(hr l _ _).2];simp[cm]
  rw[e1,e2];exact(((h.g2.ak he).swap.grow aJ aD a8).swap).cO bZ fun b O _=>ab
theorem ka.int(h:ka w wr l op av aM aS k IA i ic bj j lc)(he:Ext wr aN){x:VE}(aV:aS[k]?=some (.ex x)){aH:Kr}{n:Nat}
  (aJ:Gr (fun b=>w.heap.size+3≤b∧(Value.slice bj j lc).ownBlock≠some b) (w.heap.size+3) 57 4 aO aH (i+1) n ((bF l (aS.take k)).map bb++[bb (bx l x)]))
  (aD:Fr (fun b=>(Value.slice IA i ic).ownBlock=some b) aN aO) (a8:dc aN IA i ic aH (i+1) n) (hX:aO.setCell ⟨w.heap.size+2,10,none⟩ (.slice aH (i+1) n)=X) :
  ka w X l op av aM aS (k+1) aH (i+1) n bj j lc:=by
 have bZ:Fr (fun b=>b=w.heap.size+2) aO X:=hX▸(Fr.refl (fun b=>b=w.heap.size+2) aO).setCell (.inl rfl) _;have aw:∀b,(Value.slice IA i ic).ownBlock=some b→w.heap.size+3≤b:=fun b O=>(h.g2.one.lt O).1;refine⟨nD h.ext he aD (fun b O=>by have:=aw b O;omega) ab bZ,?_,?_,?_,?_⟩
 ·exact((h.b4.ak he).on aD fun O=>by have:=aw _ O;omega).on bZ ab
 ·exact((h.b6.ak he).on aD fun O=>by have:=aw _ O;omega).on bZ ab
 ·rw[←hX];exact((h.b7.ak he).on aD fun O=>by have:=aw _ O;omega).aC 10 _
 ·have e1:cm l (aS.take (k+1))=cm l (aS.take k):=by rw[a9 aV,(hr l _ _).2];simp[cm]
  have e2:(bF l (aS.take (k+1))).map bb=(bF l (aS.take k)).map bb++[bb (bx l x)]:=by rw[a9 aV,(hr l _ _).1];simp[bF]
  rw[e1,e2];exact((h.g2.ak he).grow aJ aD a8).cO bZ fun b O _=>ab
end
theorem tA{V aN:World}{d:D}{B:Nat}{A I:Kr}{n c aZ az:Nat}(h:d.rep aN (fresh V aN) cs)(aL:B≤V.heap.size)(ae:∀b,(Value.slice A n c).ownBlock=some b→b<V.heap.size)(aC:∀b,(Value.slice I aZ az).ownBlock=some b→b<V.heap.size):
  d.rep aN (lg (fun b=>B≤b∧(Value.slice I aZ az).ownBlock≠some b) aN (.slice A n c)) cs:=
 D.aF (fun b O=>⟨⟨J7 aL O.1,fun hc=>by have:=aC b hc;have:=O.1;omega⟩,O.2,fun hc=>by have:=ae b hc;have:=O.1;omega⟩) _ _ h
theorem Cq(dA:uG)(g:Nat)(l:List dz)(M:List bA)(F:List az)(bZ:Bool)(s:ByteArray)(aS:List da)(v:dz)(f:az)(aD:dk l s=some v)(aj:v.kind=3)(h0:0≤v.n)(hF:F[v.n.toNat]?=some f)(b9:iW M l f.params aS)(jm:f.params.length≤1000)
  (eo en:Int) (es:ByteArray) (EA:Kr) (em ec:Nat) (rs:ByteArray) (cj:Kr) (a9 rc:Nat) (ce:Kr) (n1 c1:Nat) (A2:Kr) (n2 c2:Nat) (cf:Kr) (n3 c3:Nat) (st:Int)
  (w:World) (bR:s4 w g l) (hM:xz w g M) (cF:yI w g F) (hs:Sl w (au w) ce n1 (aS.map gu)) :
  Calls prog 136 #[.pointer (some ⟨g,0,none⟩),.agg #[.int .i64 (if bZ then 4 else 3),.string s,.int .i64 eo,.int .i64 en,.string es,.slice EA em ec,.string rs,.slice cj a9 rc,.slice ce n1 c1,.slice A2 n2 c2,.slice cf n3 c3],.int .i64 st] w
   (DP w (ld bZ v.n (bF l aS) (cm l aS))):=by
 have hlen:=lE b9;have cy:aS.length=n1:=by rw[←hs.1,JU]
 obtain⟨bi,bX,cR,bK,dv,cS,bu⟩:=B8 b9 aD hF bR hM cF hs;obtain⟨a8,cO,bC⟩:=v;simp only at aj h0 hF;subst aj;obtain⟨av,rfl⟩:=JV h0;clear hs bR hM cF b9 aD hF h0;obtain⟨op,aE⟩:∃op:Int,op=if bZ then 3 else 2:=⟨_,rfl⟩
 have hx:ld bZ (av:Int) (bF l aS) (cm l aS)=⟨op,av,false,none,j0,bF l aS,cm l aS⟩:=by rw[aE];rfl
 rw[hx];clear hx;obtain⟨bU,aQ⟩:∃bU:Int,bU=if bZ then 4 else 3:=⟨_,rfl⟩
 have c7:(bU == 4)=bZ:=by rw[aQ];cases bZ<;>rfl
 rw[←aQ];clear aQ;go_enter func136,ntmps136;cases bZ
 all_goals
  simp only[if_true,Kl,if_false] at aE;go_upto_region 4 with(fail);generalize bg:World.alloc _ _=W;have aF:Ext w W:=bg▸((Kn.alloc _).alloc _).alloc _;have bG:af W w.heap.size 192 #[.int .i64 bU,.string s,.int .i64 eo,.int .i64 en,.string es,.slice EA em ec,.string rs,.slice cj a9 rc,.slice ce n1 c1,.slice A2 n2 c2,.slice cf n3 c3]:=bg▸((Ko).alloc _).alloc _;have a1:af W (w.heap.size+1) 62 (eH 0 0 false none 0 0 none 0 0):=bg▸(af.ct _ _ _ (by simp)).alloc _;have aU:af W (w.heap.size+2) 62 (eH op 0 false none 0 0 none 0 0):=by rw[←bg,aE];exact af.ct _ _ _ (by simp)
  clear bg aE;obtain⟨a2,bD,cr,fv⟩:=iF aF bG a1 aU;obtain⟨aJ,bj,ln,lc,dl,ca,y⟩:=bK.on aF;have cd:=ad y;obtain⟨a0,ap,ak⟩:=bG.two;clear aF bG a1 aU y;refine tX (fun _=>False) [6,11] (.free 0 (.free 1 (.free 2 (.held 3 (.free 4 (.held 5 (.pick [6,10] (fun i=>bif i == 6 then .free 7 (.free 8 (.free 9 (.pick [10] (fun _=>.pick [11] (fun _=>.free 12 (.stop)))))) else .pick [6] (fun _=>.free 7 (.free 8 (.free 9 (.pick [11] (fun _=>.free 12 (.stop)))))))))))))) ?_
  iterate 3 refine tf ?_
  refine th ?_;refine tf ?_;refine th ?_;refine k3 (P:=?_) (ops:=?_) (Q:=?_) (R:=?_) (tails:=?_) (rest:=.pick [11] (fun _=>.free 12 (.stop))) (aa:=?_) (C:=fun db V=>Ext W V∧af V db 153 #[.string ⟨#[]⟩,.int .i64 0,.int .i64 0]∧W.heap.size≤db) (fun key=>?_) ?_
  rotate_left 6
  ·
   refine bq ?_ ?_
   ·
    refine bS rfl (fun K hK=>?_) rfl;go_simp;refine(dM bj ln lc l s W.drew (cd.on (Fr.ext Kn.drew)) dl).mono ?_;rintro e aN ⟨rfl,ar⟩;rw[bX.o];simp only[iK,qE];refine eD hK ?_;clear hK K
    iterate 3 refine tf ?_
    refine ao ?_;refine eZ ?_;generalize hV:World.alloc _ _=V;have aL:af V aN.heap.size 153 #[.string ⟨#[]⟩,.int .i64 0,.int .i64 0]:=hV▸Ko;have bf:Ext W V:=hV▸(Fr.aO ar).alloc _;have hle:=(Fr.aO ar).size;clear hV ar;generalize aN.heap.size=db at *;exact key db V ⟨bf,aL,hle⟩
   ·
    refine eZ ?_;refine ao ?_;refine bS rfl (fun K hK=>?_) rfl;go_simp;generalize hV:World.alloc _ _=V;have aL:af V W.heap.size 153 #[.string ⟨#[]⟩,.int .i64 0,.int .i64 0]:=hV▸Ko;have bf:Ext W V:=hV▸Kn.alloc _;clear hV;refine(dM bj ln lc l s V.drew (cd.on (Fr.ext bf.drew)) dl).mono ?_;rintro e aN ⟨rfl,ar⟩;rw[bX.o];simp only[iK,qE];refine eD hK ?_;clear hK K
    iterate 3 refine tf ?_
    have b3:=aL.ak (Fr.aO ar);have aG:=bf.trans (Fr.aO ar);clear aL bf ar;exact key W.heap.size aN ⟨aG,b3,JQ _⟩
  ·
   rintro db V ⟨bf,bV,ah⟩;have cA:=fv.lt;obtain⟨a6,am,aI⟩:=bV.two;clear a0 ap ak ca;refine ao ?_;refine bS rfl (fun K hK=>?_) rfl;go_simp;refine eD hK ?_;clear hK K;refine tf ?_;refine cw ?_;generalize hX:World.setCell _ _ _=X;obtain⟨bh,bo,_⟩:=pr bV bf ah hX;have J:=ad (a2.trans bo);have ac:=ad (bD.ak bo);have u:=ad (cr.ak bo);have m:=fv.ak bo;have bY:=ad m;clear hX a6 am aI bV bf bo;obtain⟨a6,am,aI⟩:=bh.two;obtain⟨a0,ap,ak⟩:=m.two;clear m;go_upto_region 12 with(fail);generalize b6:World.setCell _ _ _=Y;have co:=u.lt;have bk:Fr (fun b=>b=w.heap.size+2) X Y:=b6▸(Fr.refl (fun b=>b=w.heap.size+2) X).setCell (.inl rfl) _;have bs:af Y (w.heap.size+2) 62 (eH op av false none 0 0 none 0 0):=b6▸bY.aC 1 _;have bB:Ext w Y:=(Fr.trans (J.mono fun _ h=>h.elim) bk).low (fun b hm=>ab);have N:=ac.on bk ab;have bp:=u.on bk ab;obtain⟨bl,bM,a7,cv⟩:=iF bB N bp bs;have b4:=bh.on bk ab;obtain⟨bN,FA,fn,fc,aW,f3,aZ⟩:=cS.o;have cH:F[av]?=some f:=by have:=cR.o;simpa using this
   have a4:av<fn:=by have ae:=(List.getElem?_eq_some_iff.1 cH).1;have aC:=aZ.1;rw[JU] at aC;omega
   obtain⟨b2,cE,bP,cs,rfl,a5,b1,H,cV,cx⟩:=aZ.gN mV a4;rw[cH] at b1;injection b1 with b1;subst b1;obtain⟨PA,pn,pc,f0,bn,eL,rfl,cW,cu,ch,_⟩:=kL.1 H;replace f3:=(bB.cell bN (fun h=>h)).trans f3
   have f4:=(bB.cell a5 (fun h=>h)).trans (cx 1 _ rfl);have U:=bB.size;have cP:b2<Y.heap.size:=JR a5 U;have cG:g<Y.heap.size:=JR bN U;have gH:f.params.length=pn:=by rw[←ch.1,JU]
   have gG:=ad ch;obtain⟨a6,am,aI⟩:=b4.two;obtain⟨a0,ap,ak⟩:=N.two;obtain rfl:n1=pn:=ab;have bL:=ad (show ka w Y l op av #[.int .i64 bU,.string s,.int .i64 eo,.int .i64 en,.string es,.slice EA em ec,.string rs,.slice cj a9 rc,.slice ce n1 c1,.slice A2 n2 c2,.slice cf n3 c3] aS 0 none 0 0 none 0 0 from
    ⟨bB,N,bp,bs,k4.nil _ _ _ _ _ _⟩)
   clear b6 bk bB bp bs bh aZ H cV cx ch a5 J ac u bY ah N b4 bl bM a7 cv;go_wp2;refine eE (fun _=>False) [(0,3),(1,3),(2,3),(3,3),(4,0),(5,3),(6,0),(7,3),(8,3),(9,0),(10,3)] ?_
   iterate 4 refine pf ?_
   refine ph ?_;refine pf ?_;refine ph ?_
   iterate 2 refine pf ?_
   refine ph ?_;refine pf ?_;refine aA ?_;clear a6 am aI f3 f4 cP;go_wp2;clear a0 ap ak;go_loopw [11] (fun ba wr=>∃(k:Nat) (IA:Kr) (i ic:Nat) (bj:Kr) (j lc:Nat),k≤n1∧ba=.int .i64 k∧i≤k∧j≤k∧ka w wr l op av #[.int .i64 bU,.string s,.int .i64 eo,.int .i64 en,.string es,.slice EA em ec,.string rs,.slice cj a9 rc,.slice ce n1 c1,.slice A2 n2 c2,.slice cf n3 c3] aS k IA i ic bj j lc) (fun ba _=>n1 - (intOf ba).toNat)
   case atStart=>exact⟨0,none,0,0,none,0,0,ab,rfl,JQ _,JQ _,⟨bL.ext.drew,bL.b4,bL.b6,bL.b7,bL.g2.ak Kn.drew⟩⟩
   case round=>
    obtain⟨k,IA,i,ic,bj,j,lc,aj,rfl,bQ,z,hC⟩:=hrel;clear bL;have bL:=ad hC;obtain⟨a0,ap,ak⟩:=hC.b4.two;by_cases aw:k<n1
    ·obtain⟨cT,cY,a,cs,rfl,ai,aV,S,a3,Z⟩:=(bu.on (Fr.ext hC.ext)).gN sc aw;obtain⟨pb,gL,q,cZ,rfl,eI,bm,ax,bO,dw⟩:=(gG.on (Fr.ext hC.ext)).gN q0 aw;obtain rfl:=nB.1 ax;have aT:=dw 1 _ rfl;have al:pb<wr.heap.size:=eI;have b7:cT<wr.heap.size:=ai;have HA:=ad aV;rcases mR bi.o bm aV with⟨r,rfl,bH,eu⟩|⟨x,rfl,bH,cJ⟩
     ·rw[bH] at aT;obtain⟨bc,cX,cM,cK,cB,zc,rfl,T⟩:=Cy S;have c0:=Z 0 _ rfl;have cL:=Z 1 _ rfl;have b0:=Z 2 _ rfl;have bz:=Z 3 _ rfl;have cg:=Z 4 _ rfl;have ci:=Z 5 _ rfl;have cn:=Z 6 _ rfl;simp only[J0] at c0;have L:=ad T;clear hC a3 Z ax bO dw eI ai S aV bm T;go_upto_region 20 with(fail);generalize hV:World.alloc _ _=V;have t:Ext wr V:=hV▸Kn.alloc _;have I:af V wr.heap.size 214 #[.bool true,.string bc,.slice cX cM cK,.int .i64 0,.int .i64 0,.string ⟨#[]⟩,.slice cB 0 zc]:=hV▸Ko;have aU:=bL.b7.ak t;replace aT:=((Fr.uu t).1 pb _ al).trans aT
      replace al:pb<V.heap.size:=JR al t.size
      have nH:=bL.b7.lt;have cU:=t.size;clear hV a0 ap ak c0 cL b0 bz cg ci cn b7;obtain⟨d0,ag,aR⟩:=I.two;obtain⟨a0,ap,ak⟩:=aU.two;clear aU I;go_wp2;refine eE (fun _=>False) [(0,3),(1,0),(2,3),(3,3),(4,3),(5,3),(6,0),(7,3)] ?_;refine pf ?_;refine ph ?_
      iterate 4 refine pf ?_
      refine ph ?_;refine pf ?_;refine aA ?_;clear aT al;go_wp2;refine eE (fun _=>False) [(0,3),(1,0),(2,3),(3,3),(4,0),(5,3),(6,1),(7,1),(8,2),(9,3),(10,2)] ?_;refine pf ?_;refine bI (v:=?_) rfl (by rfl) (fun V hV=>?_) ?_;rotate_left
      ·obtain⟨hVc,hVf⟩:=Fr.jb hV
       (go_simp<;>with_reducible rfl)
      try simp only[PU]
      iterate 2 refine pf ?_
      refine bI (v:=?_) rfl (by rfl) (fun V hV=>?_) ?_;rotate_left
      ·obtain⟨hVc,hVf⟩:=Fr.jb hV
       (go_simp<;>with_reducible rfl)
      try simp only[PU]
      refine pf ?_;refine aK rfl (fun K hK=>?_);go_simp;refine(dA g l M r eu st bc cX cM cK _ (bK.on (bL.ext.trans t).drew.drew) (dv.on (bL.ext.trans t).drew.drew) (D.on L.o (Fr.ext t.drew.drew))).mono ?_;rintro e aN ⟨gZ,g0,cl,ck,ct,rfl,b5,ar⟩;refine dW hK (ar) ?_;clear hK K;have aG:Ext V aN:=Fr.aO (Fr.aO ar);have o:(de (lT l r)).rep aN (fresh V aN) [.bool gZ,.int .i64 g0,.slice cl ck ct]:=b5;have bf:=t.trans aG;have aP:=aG.size;have cN:∀b,(Value.slice IA i ic).ownBlock=some b→b<V.heap.size:=fun b O=>by have:=(bL.g2.one.lt O).2;omega
      have bE:∀b,(Value.slice bj j lc).ownBlock=some b→b<V.heap.size:=fun b O=>by have:=(bL.g2.two.lt O).2;omega
      refine ru ?_;refine aq rfl (fun K hK=>?_);rw[if_pos (by rfl)];refine qn Gh (.tmp 92) (.tmp 98) (by rfl) (bL.g2.ak bf).two (tA o ab bE cN) (by rfl) (by rfl) (by rfl) ab ab ab ?_;intro aX aY aO an ay b8 bJ;have m:=(bL.b7.ak bf).on ay (fun O=>by have:=(bL.g2.two.lt O).1;omega);have bW:=bw an ay b8 bf;clear an ay b8 b5 o ar aG bf t a0 ap ak d0 ag aR cN bE aP;obtain⟨a0,ap,ak⟩:=m.two;clear m;refine eD hK ?_;clear hK K;refine pf ?_;refine aq rfl (fun K hK=>?_);go_simp;refine eD hK ?_;clear hK K;refine aA ?_;clear a0 ap ak;generalize hX:World.setCell aO _ _=bT;have bt:=ad (bL.place bW.2.2.2 HA.o bW.1 bW.2.1 bW.2.2.1 hX);clear hX;go_wp2;go_roundw
      case rel=>exact⟨k+1,IA,i,ic,aX,j+1,aY,ab,by go_num,ab,ab,bt.o⟩
      case measure=>exact aB
     ·rw[bH] at aT;obtain⟨cB,cp,zc,c5,ck,xs,cl,c4,ct,rfl,T⟩:=Cw S;have c0:=Z 0 _ rfl;have cL:=Z 1 _ rfl;have b0:=Z 2 _ rfl;have bz:=Z 3 _ rfl;have cg:=Z 4 _ rfl;have ci:=Z 5 _ rfl;have cn:=Z 6 _ rfl;simp only[J0] at c0;have L:=ad T;clear hC a3 Z ax bO dw eI ai S aV bm T;go_upto_region 20 with(fail);generalize hV:World.alloc _ _=V;have t:Ext wr V:=hV▸Kn.alloc _;have I:af V wr.heap.size 214 #[.bool false,.string ⟨#[]⟩,.slice cB cp zc,.int .i64 c5,.int .i64 ck,.string xs,.slice cl c4 ct]:=hV▸Ko;have aU:=bL.b7.ak t;replace aT:=((Fr.uu t).1 pb _ al).trans aT
      replace al:pb<V.heap.size:=JR al t.size
      have nH:=bL.b7.lt;have cU:=t.size;clear hV a0 ap ak c0 cL b0 bz cg ci cn b7;obtain⟨d0,ag,aR⟩:=I.two;obtain⟨a0,ap,ak⟩:=aU.two;clear aU I;go_wp2;refine eE (fun _=>False) [(0,3),(1,0),(2,3),(3,3),(4,3),(5,3),(6,0),(7,3)] ?_;refine pf ?_;refine ph ?_
      iterate 4 refine pf ?_
      refine ph ?_;refine pf ?_;refine aA ?_;clear aT al;go_wp2;refine eE (fun _=>False) [(0,3),(1,0),(2,3),(3,3),(4,0),(5,3),(6,1),(7,1),(8,2),(9,3),(10,2)] ?_;refine pf ?_;refine bI (v:=?_) rfl (by rfl) (fun V hV=>?_) ?_;rotate_left
      ·obtain⟨hVc,hVf⟩:=Fr.jb hV
       (go_simp<;>with_reducible rfl)
      try simp only[PU]
      iterate 2 refine pf ?_
      refine bI (v:=?_) rfl (by rfl) (fun V hV=>?_) ?_;rotate_left
      ·obtain⟨hVc,hVf⟩:=Fr.jb hV
       (go_simp<;>with_reducible rfl)
      try simp only[PU]
      refine pf ?_;refine aK rfl (fun K hK=>?_);go_simp;refine(fP l x cJ g st _ _ _ _ _ _ _ (bK.on (bL.ext.trans t).drew.drew) (D.on L.o (Fr.ext t.drew.drew))).mono ?_;rintro e aN ⟨c6,cI,br,cC,cQ,cD,rfl,b5,ar⟩;refine dW hK (ar) ?_;clear hK K;have aG:Ext V aN:=Fr.aO (Fr.aO ar);have o:(bb (bx l x)).rep aN (fresh V aN) [.int .i64 c6,.int .i64 cI,.string br,.slice cC cQ cD]:=b5;have bf:=t.trans aG;have aP:=aG.size;have cN:∀b,(Value.slice IA i ic).ownBlock=some b→b<V.heap.size:=fun b O=>by have:=(bL.g2.one.lt O).2;omega
      have bE:∀b,(Value.slice bj j lc).ownBlock=some b→b<V.heap.size:=fun b O=>by have:=(bL.g2.two.lt O).2;omega
      refine ru ?_;refine aq rfl (fun K hK=>?_);rw[if_pos (by rfl)];refine qn oU (.tmp 102) (.tmp 108) (by rfl) (bL.g2.ak bf).one (tA o ab cN bE) (by rfl) (by rfl) (by rfl) ab ab ab ?_;intro aH n aO an ay b8 bJ;have m:=(bL.b7.ak bf).on ay (fun O=>by have:=(bL.g2.one.lt O).1;omega);have bW:=bw an ay b8 bf;clear an ay b8 b5 o ar aG bf t a0 ap ak d0 ag aR cN bE aP;obtain⟨a0,ap,ak⟩:=m.two;clear m;refine eD hK ?_;clear hK K;refine pf ?_;refine aq rfl (fun K hK=>?_);go_simp;refine eD hK ?_;clear hK K;refine aA ?_;clear a0 ap ak;generalize hX:World.setCell aO _ _=bT;have bt:=ad (bL.int bW.2.2.2 HA.o bW.1 bW.2.1 bW.2.2.1 hX);clear hX;go_wp2;go_roundw
      case rel=>exact⟨k+1,aH,i+1,n,bj,j,lc,ab,by go_num,ab,ab,bt.o⟩
      case measure=>exact aB
    ·obtain rfl:k=n1:=ab;have aU:=hC.b7;have a1:=hC.b6;clear hC a0 ap ak;obtain⟨a0,ap,ak⟩:=aU.two;obtain⟨d0,ag,aR⟩:=a1.two;clear aU;go_wp2;generalize hX:World.setCell _ _ _=bT;obtain⟨cq,cc,cz⟩:=cb (eH op av false IA i ic bj j lc).toList (by rfl) a1 bL.ext ab hX;clear hX a0 ap ak d0 ag aR;obtain⟨bv,bd,be⟩:=cq.two;refine Km (v:=.agg (eH op av false IA i ic bj j lc)) (by simp[results,Tryz.results136,go_sem,bv]) rfl ?_;have hG:=bL.g2.cO cz fun b O _=>ab;have e4:=cz.size;rw[JY ab] at hG;refine⟨IA,i,ic,bj,j,lc,rfl,?_,cc⟩;exact jj (hG.one.sl (fun b ae aC=>⟨by have:=aC.1;omega,ae⟩) (fun b ae aC=>⟨ab,ae⟩)) (hG.two.sl (fun b ae aC=>⟨by have:=aC.1;omega,ae⟩) (fun b ae aC=>⟨ab,ae⟩)) hG.one.cap.1 hG.two.cap.1
end Go.Proofs.YtbkhhfajcgkpgaaGreat
