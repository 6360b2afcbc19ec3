/- Schedules, the program's side: the run under way, and a pick. Conditions: a well-formed unit. -/
import Derived.Test.YtkhnkojkplbioaaGreatESchP
import Derived.Test.YtkhnkojkplbioaaGreatQ47
import Derived.Test.YtkhnkojkplbioaaGreatQ23
namespace Go.Proofs.YtkhnkojkplbioaaGreat
open Go.RowKit
set_option maxRecDepth 1000000
set_option linter.unusedVariables false
abbrev wkC(p:UV)(u:ay)(q:SV)(s:ai)(A:Option Addr)(n c:Nat):Array Value:=#[.slice p.GA p.gn p.gc,.slice p.MA p.mn p.mc,.slice p.PA p.pn p.pc,.int .i64 u.main,.slice q.GA q.gn q.gc,.slice q.TA q.tn q.tc,.slice q.HA q.hn q.hc,.int .i64 s.fault,.slice A n c]
structure WkAt(w0q7 w:World)(p:UV)(u:ay)(g:Nat)(q:SV)(A:Option Addr)(n c:Nat)(F:List Nat)(s:ai)(l:List Int):Prop where
 ext:Ext w0q7 w
 lo:w0q7.heap.size<=g
 blk:aq w g 139 (wkC p u q s A n c)
 row:Own w 3 1 A n c (l.map df) F
 len:l.length=n
 rlo:∀b∈F,w0q7.heap.size<=b/\b≠g
 Ho:q.Is w (λb=>w0q7.heap.size<=b/\b<w.heap.size/\b≠g/\b∉F) s
theorem WkAt.aj{w0q7 w w':World}{p:UV}{u:ay}{g:Nat}{q:SV}{A:Option Addr}{n c:Nat}{F:List Nat}{s:ai}{l:List Int}(h:WkAt w0q7 w p u g q A n c F s l)(he:Ext w w'):WkAt w0q7 w' p u g q A n c F s l:=
 ⟨h.ext.trans he,h.lo,h.blk.aj he,h.row.aj he,h.len,h.rlo,(h.Ho.al λb hbq7=>he.block b hbq7.2.1 λh=>h).mono λb hbq7=>⟨hbq7.1,Nat.lt_of_lt_of_le hbq7.2.1 he.size,hbq7.2.2⟩⟩
set_option maxRecDepth 1000000 in
set_option maxHeartbeats 1600000 in
theorem pick_any(u:ay)(N:Nat)(t:Int)(w0q7 w:World)(p:UV)(g:Nat)(q:SV)(A:Option Addr)(n c:Nat)(F:List Nat)(s:ai)(l:List Int)(hU:tV u)(hu:p.Ok w0q7 u)(hs:aX u N s)(hN:N<=100000)(hn:n<=1000000)(h:WkAt w0q7 w p u g q A n c F s l) :
  Calls Tryz.prog 86 #[.pointer (some ⟨g,0,none⟩),.int .i64 t] w λe w'=>e=.returned (.tuple #[])/\∃q' A' n' c' F',WkAt w0q7 w' p u g q' A' n' c' F' (aV u s t).1 (l++if (aV u s t).2 then [t] else []):=by
 obtain⟨GA,gn,gc,MA,mn,mc,PA,pn,pc⟩:=p;obtain⟨SB,sm,sdq7,TB,tmq7,tdq7,HBq7,hm,hd⟩:=q;have HUq7:=ae (And.intro hU (And.intro hs (hu.on h.ext)));have H:=ae h;obtain⟨g0q7,g0f,g0l⟩:=h.blk.two;have hgF:g∉F:=λhbq7=>(h.rlo g hbq7).2 rfl;have hb2:∃(b:Bool) (T:ai),aV u s t=(T,b):=⟨_,_,rfl⟩
 obtain⟨b,T,hbT⟩:=hb2;have hst:∀V,Ext w V->Calls Tryz.prog 18 #[.agg ((⟨GA,gn,gc,MA,mn,mc,PA,pn,pc⟩:UV).val u),.agg ((⟨SB,sm,sdq7,TB,tmq7,tdq7,HBq7,hm,hd⟩:SV).val s),.int .i64 t] V (cV mW V T b):=by
  intro V hV;have:=qv u s t N V ⟨GA,gn,gc,MA,mn,mc,PA,pn,pc⟩ ⟨SB,sm,sdq7,TB,tmq7,tdq7,HBq7,hm,hd⟩ HUq7.o.1 HUq7.o.2.1 hN (HUq7.o.2.2.on hV) ((H.o.Ho.ok λb hbq7=>hbq7.2.1).on hV)
  rwa [hbT] at this
 have hfl:b=false->T=s:=λhbq7=>by
  have:=ka (u:=u) (s:=s) (t:=t) (by rw[hbT];exact hbq7)
  rwa [hbT] at this
 rw[hbT];have HST:=ae hst;have HFL:=ae hfl;clear hst hfl hbT h hU hu hs;go_enter Tryz.func86,Tryz.ntmps86;go_upto_region 0 with(fail);refine rC (λ_=>False) [14] (.free 0 (.free 1 (.free 2 (.held 3 (.free 4 (.free 5 (.free 6 (.held 7 (.free 8 (.pick [9,13] (λi=>bif i == 9 then .free 10 (.free 11 (.free 12 (.pick [13] (λ_=>.pick [14] (λ_=>.free 15 (.stop)))))) else .pick [9] (λ_=>.free 10 (.free 11 (.free 12 (.pick [14] (λ_=>.free 15 (.stop))))))))))))))))) ?_
 iterate 3 refine tf ?_
 refine th ?_
 iterate 3 refine tf ?_
 refine th ?_;refine tf ?_;refine mu (P:=?oU) (ops:=?Ie) (Q:=?Ih) (R:=?Ij) (tails:=?Iu) (rest:=.pick [14] (λ_=>.free 15 (.stop))) (aa:=?HP)
  (C:=λ(gxq7:Nat) (Y:Value) WV=>Ext w WV/\aq WV gxq7 40 #[.slice none 0 0,.slice none 0 0,.slice none 0 0,.int .i64 0]/\w.heap.size<=gxq7/\∃q':SV,Y=.agg (q'.val T)/\q'.Is WV (λb=>w.heap.size<=b/\b<WV.heap.size/\b≠gxq7) T) (λkey=>?wP) ?wI
 case wP=>
  refine a2 ?_ ?_
  ·
   refine aB rfl (λK hK=>?_) rfl;go_simp;refine(HST.o w.drew (Fr.refl _ w).drew).mono ?_;rintro e w2q7 ⟨q',rfl,hq',hE2⟩;refine dq hK (hE2) ?_;clear hK K
   iterate 3 refine tf ?_
   refine ao ?_;refine dT ?_;generalize hZq7:World.alloc _ _=Z;have e2:Ext w2q7 Z:=by rw[<-hZq7];exact(Fr.refl _ _).alloc _
   have hs2:w.heap.size<=w2q7.heap.size:=hE2.size;have hs3:=e2.size;have F:Ext w Z/\aq Z w2q7.heap.size 40 #[.slice none 0 0,.slice none 0 0,.slice none 0 0,.int .i64 0]/\w.heap.size<=w2q7.heap.size/\∃q2q7:SV,(Value.agg (q'.val T))=.agg (q2q7.val T)/\q2q7.Is Z (λb=>w.heap.size<=b/\b<Z.heap.size/\b≠w2q7.heap.size) T:=
    ⟨(Fr.aF hE2).trans e2,by rw[<-hZq7];exact aq.new _ _ _,hs2,q',rfl,(hq'.al λb hbq7=>e2.block b (hbq7.elim (λh=>h.elim) λh=>h.2) λh=>h).mono λb hbq7=>by
     have hd:w.drew.heap.size=w.heap.size:=rfl;have:=hbq7.resolve_left λh=>h;omega⟩
   clear hZq7 e2 hs2 hs3 hq' hE2;revert F;generalize w2q7.heap.size=gxq7;generalize (Value.agg (q'.val T))=Y;intro F;exact key gxq7 Y _ F
  ·
   refine dT ?_;generalize hV2:World.drew (World.alloc _ _)=W1;have e1:Ext w W1:=by rw[<-hV2];exact((Fr.refl _ _).alloc _).drew
   have hB1:aq W1 w.heap.size 40 #[.slice none 0 0,.slice none 0 0,.slice none 0 0,.int .i64 0]:=by rw[<-hV2];exact aq.new _ _ _
   have hs1':=hB1.lt;refine ao ?_;refine aB rfl (λK hK=>?_) rfl;go_simp;refine(HST.o W1 e1).mono ?_;rintro e w2q7 ⟨q',rfl,hq',hE2⟩;refine dq hK (hE2) ?_;clear hK K
   iterate 3 refine tf ?_
   have hs2:=hE2.size;have F:Ext w w2q7/\aq w2q7 w.heap.size 40 #[.slice none 0 0,.slice none 0 0,.slice none 0 0,.int .i64 0]/\w.heap.size<=w.heap.size/\∃q2q7:SV,(Value.agg (q'.val T))=.agg (q2q7.val T)/\q2q7.Is w2q7 (λb=>w.heap.size<=b/\b<w2q7.heap.size/\b≠w.heap.size) T:=
    ⟨e1.trans hE2,hB1.aj hE2,Nat.le_refl _,q',rfl,hq'.mono λb hbq7=>by
     have:=hbq7.resolve_left λh=>h;omega⟩
   clear hV2 e1 hB1 hs1' hs2 hq' hE2;revert F key;generalize (Value.agg (q'.val T))=Y;intro key F;exact key w.heap.size Y _ F
 case wI=>
  rintro gxq7 Y WV ⟨hE4,hBx,hgx,⟨SC,cmq7,cdq7,TC,tm2,td2,HCq7,hm2,hd2⟩,rfl,hq4⟩;dsimp only[SV.val];obtain⟨x0q7,x0f,x0l⟩:=hBx.two;clear g0q7 g0f;refine ao ?_;refine bQ rfl (λK hK=>?_) rfl;go_simp;refine dP hK ?_;clear hK K;refine tf ?_;refine b9 ?_;generalize hX:World.setCell _ _ _=X;obtain⟨hBX,hEX,hFX⟩:=bw (w:=w) [.slice SC cmq7 cdq7,.slice TC tm2 td2,.slice HCq7 hm2 hd2,.int .i64 T.fault] (by rfl) hBx hE4 hgx hX;have hq5:(⟨SC,cmq7,cdq7,TC,tm2,td2,HCq7,hm2,hd2⟩:SV).Is X (λb=>w.heap.size<=b/\b<X.heap.size) T:=(hq4.al λb hbq7=>hFX.block b hbq7.2.1 hbq7.2.2).mono λb hbq7=>⟨hbq7.1,by have:=hFX.size;have:=hbq7.2.1;omega⟩
  have hBs:=H.o.blk.aj hEX;have HX4:=ae (And.intro hEX (And.intro hq5 (And.intro hBs hBX)));have hXs:=hEX.size;obtain⟨x0q7,x0f,x0l⟩:=hBX.two;obtain⟨g0q7,g0f,g0x⟩:=hBs.two;have hxF:gxq7∉F:=λhbq7=>by have:=H.o.row.lt gxq7 hbq7;omega
  have hgx2:gxq7≠g:=ad;clear hX hBx hE4 hq4 hFX hEX hq5 hBs hBX
  cases b with
  | false=>
   go_wp2_with(fail);refine bodyPost_end (v:=.tuple #[]) (by simp[results,Tryz.results86,go_sem]) rfl ?_;refine⟨rfl,⟨SB,sm,sdq7,TB,tmq7,tdq7,HBq7,hm,hd⟩,A,n,c,F,?_⟩;rw[HFL.o (by trivial)]
   exact H.o.aj HX4.o.1
  | true=>
   go_upto_region 2 with(fail);refine eC (λb=>b∈F) [(0,3),(1,3),(2,0),(3,3),(4,3),(5,3),(6,0),(7,3),(8,1),(9,1),(10,3),(11,3),(12,2),(13,3),(14,3),(15,2)] ?_
   iterate 2 refine pf ?_
   refine oQ ?_
   iterate 3 refine pf ?_
   refine oQ ?_;refine pf ?_;refine rz ?_;refine ml (λV=>Ext X V/\aq V X.heap.size 3 #[.int .i64 t]/\V.heap.size=X.heap.size+1) ⟨by first|exact((Fr.refl _ X).drew).alloc _|exact((Fr.refl _ X).alloc _).drew,by first|exact aq.new X _ _|exact aq.new X.drew _ _,by simp⟩ (λU hU=>?_);have HU2:=ae hU;clear hU;refine aG rfl (λK hK=>?_);rw[if_pos (by rfl)];refine yA dh (.tmp 26) (.tmp 28) rfl ((H.o.row.aj HX4.o.1).aj HU2.o.1) HU2.o.2.1 rfl rfl rfl (by simp[Value.oneCell']) ad ad ?_;intro A2 c2 w6q7 g1q7 g2 g3q7;refine dq hK (g2) ?_;clear hK K;have hf6:Fr (λb=>b∈F) X w6q7:=Fr.trans (HU2.o.1.mono λ_ h=>h.elim) g2;have hB6:=HX4.o.2.2.1.on hf6 hgF;have h6s:=hf6.size;have HGq7:=ae (And.intro g1q7 (And.intro hf6 (And.intro (λb hbq7=>(g3q7 b hbq7).imp id (λh=>(⟨by have:=HU2.o.2.2;omega,h.2⟩:X.heap.size<=b/\b<w6q7.heap.size))) hB6)));clear g1q7 g2 g3q7 x0q7 x0f x0l g0q7 g0f g0x;obtain⟨g0q7,g0f,g0x⟩:=hB6.two;clear hf6 hB6
   iterate 2 refine pf ?_
   refine ax rfl (λK hK=>?_);go_simp;refine dP hK ?_;clear hK K
   iterate 2 refine pf ?_
   refine ax rfl (λK hK=>?_);go_simp;refine dP hK ?_;clear hK K;refine aC ?_;generalize hZq7:World.setCell _ _ _=Z;obtain⟨hBZ,hFZ⟩:=km 4 [.slice SC cmq7 cdq7,.slice TC tm2 td2,.slice HCq7 hm2 hd2,.int .i64 T.fault,.slice A2 (n+1) c2] HGq7.o.2.2.2 hZq7;go_wp2_with(fail);refine bodyPost_end (v:=.tuple #[]) (by simp[results,Tryz.results86,go_sem]) rfl ?_;have hlt:=H.o.row.lt;have hrlo:=H.o.rlo;have hFw:Fr (λb=>b∈F\/b=g) w Z:=Fr.trans (Fr.trans (HX4.o.1.mono λ_ h=>h.elim) (HGq7.o.2.1.mono λ_ h=>.inl h)) (hFZ.mono λ_ h=>.inr h);have hZs:=hFZ.size;have hw0:=H.o.ext.size;have hg2:∀b∈bt A2 (n+1) c2,b≠g/\w0q7.heap.size<=b/\(b∈F\/X.heap.size<=b):=λb hbq7=>by
    rcases HGq7.o.2.2.1 b hbq7 with h|h
    .exact⟨(hrlo b h).2,(hrlo b h).1,.inl h⟩
    .exact⟨ad,ad,.inr h.1⟩
   refine⟨rfl,⟨SC,cmq7,cdq7,TC,tm2,td2,HCq7,hm2,hd2⟩,A2,n+1,c2,bt A2 (n+1) c2,?_,H.o.lo,hBZ,?_,?_,λb hbq7=>⟨(hg2 b hbq7).2.1,(hg2 b hbq7).1⟩,?_⟩
   .exact Fr.low (M:=λb=>b∈F\/b=g) (Fr.trans (H.o.ext.mono λ_ h=>h.elim) hFw) λb hbq7=>by
     rcases hbq7 with hbq7|hbq7
     .exact(hrlo b hbq7).1
     .subst hbq7;exact H.o.lo
   .rw[List.map_append];exact HGq7.o.1.al λb hbq7=>hFZ.block b (HGq7.o.1.lt b hbq7) (hg2 b hbq7).1
   .rw[List.length_append,H.o.len];rfl
   .refine(HX4.o.2.1.al λb hbq7=>?_).mono λb hbq7=>⟨ad,ad,ad,λhc=>?_⟩
    .refine(hFZ.block b ad ad).trans (HGq7.o.2.1.block b hbq7.2 λhc=>?_);have:=hlt b hc;omega
    .rcases (hg2 b hc).2.2 with h|h
     .have:=hlt b h;omega
     .omega
end Go.Proofs.YtkhnkojkplbioaaGreat
