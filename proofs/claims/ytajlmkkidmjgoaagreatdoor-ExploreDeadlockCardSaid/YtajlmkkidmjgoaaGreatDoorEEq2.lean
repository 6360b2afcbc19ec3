/- The search of explore: ExqE, ExqF, ExqG, ExqH, ExqI. No condition of its own. -/
import Derived.Test.YtajlmkkidmjgoaaGreatDoorEEq1
import Derived.Test.YtajlmkkidmjgoaaGreatDoorQ07
import Derived.Test.YtajlmkkidmjgoaaGreatDoorQ25
import Derived.Test.YtajlmkkidmjgoaaGreatDoorQ37
namespace Go.Proofs.YtajlmkkidmjgoaaGreatDoor
open Go.RowKit
set_option maxRecDepth 1000000
set_option linter.unusedVariables false
section
def addK(most:Nat)(s:ah)(p:List Int)(out:List Kn):List Kn×Bool:=if qF out s=true then (out,true) else if out.length=most then (out,false) else (out++[(s,p)],true)
theorem knows_seen{L:List Fd}{out:List Kn}(h:FdOk L out)(s:ah):decide (EX s∈L.map λx=>EX x.1)=qF out s:=by
 have h1q7:(EX s∈L.map λx=>EX x.1)↔s∈out.map (·.1):=by
  rw[<-h.states,List.mem_map,List.mem_map];constructor
  .rintro⟨x,hx,he⟩;exact⟨x,hx,keyB_inj he⟩
  .rintro⟨x,hx,rfl⟩;exact⟨x,hx,rfl⟩
 rw[Bool.eq_iff_iff,decide_eq_true_iff,h1q7,qG]
def AddRes(c:SC)(w:World)(A:Option Addr)(n d i R:Nat)(r:List Kn×Bool)(e:Ending)(w':World):Prop:=∃A' n' d' L',e=.returned (.bool r.2)/\XAt c w' A' n' d' i R L' r.1/\Fr (c.M A n d) w w'/\c6 w A n d A' n' d'
set_option maxRecDepth 1000000 in
set_option maxHeartbeats 3200000 in
theorem add_any(c:SC)(hc:c.Ok)(w:World)(A:Option Addr)(n d i R:Nat)(L:List Fd)(out:List Kn)(hRq7:R<=1000)(h:XAt c w A n d i R L out)(s:ah)(q:SV)(par t:Int)(p:List Int)(hS:aV c.u R s)(hqq7:q.Is w (kJ c.P w (.slice A n d)) s)(hfd:FdOk (L++[(s,par,t)]) (out++[(s,p)])) :
  Calls Tryz.prog 39 #[.pointer (some ⟨c.g,0,none⟩),.agg (q.val s),.int .i64 par,.int .i64 t] w (AddRes c w A n d i R (addK c.most s p out)):=by
 have hlen:=h.len;have hnb:n<=500:=by have:=h.le;have:=hc.most;omega
 have hne:=hc.ne;have hnn:c.g≠c.bKn/\c.g≠c.bOp/\c.bKn≠c.bOp:=hne;have H:=ae (And.intro hc (And.intro hS (And.intro hfd hlen)));have HI:=ae (And.intro h hqq7);obtain⟨hgk,hgo,hko⟩:=hnn;clear h hS hfd hlen hqq7 hne hc;dsimp only[SV.val];go_enter Tryz.func39,Tryz.ntmps39;go_upto_region 1 with(fail);generalize hWq7:World.alloc _ _=W;have hEq7:Ext w W:=by rw[<-hWq7];exact(Fr.refl _ _).alloc _
 have hBq7:an W w.heap.size 45 #[.slice q.GA q.gn q.gc,.slice q.TA q.tn q.tc,.slice q.HA q.hn q.hc,.int .i64 s.fault]:=by rw[<-hWq7];exact an.new _ _ _
 have hWs:=hBq7.lt;have hX:=HI.o.1.on hEq7;have hqW:q.Is W (kJ c.P w (.slice A n d)) s:=HI.o.2.al λb hbq7=>hEq7.block b hbq7.2.1 λh=>h;have HW:=ae (And.intro hEq7 (And.intro hBq7 (And.intro hX hqW)));obtain⟨x0q7,x0f,x0l⟩:=hBq7.two;have kkq7:=key_any H.o.1.aint s q W (hqW.ok λb hbq7=>Nat.lt_trans hbq7.2.1 hWs) (H.o.2.1.small H.o.1.hU.ok ad) (keyFits H.o.1.hU.ok H.o.2.1 ad) (Nat.le_trans (key_len H.o.1.hU.ok H.o.2.1 ad) ad) (hX.Gp H.o.1);have KK:=ae kkq7;clear hWq7 hEq7 hBq7 hX hqW kkq7;go_wp2_with(fail);refine KK.o.mono ?_;rintro e w1q7 ⟨rfl,hE1⟩;clear KK;have hX1:=HW.o.2.2.1.on hE1;have hB1:=HW.o.2.1.aj hE1;have hq1:q.Is w1q7 (kJ c.P w (.slice A n d)) s:=HW.o.2.2.2.al λb hbq7=>hE1.block b (Nat.lt_trans hbq7.2.1 hWs) λh=>h;have hlk:=hX1.know.look (EX s) (Nat.le_trans (key_len H.o.1.hU.ok H.o.2.1 ad) ad);rw[knows_seen hX1.fd] at hlk;have hE01:Ext w w1q7:=HW.o.1.trans hE1;have h01:=hE01.size;have H1:=ae (And.intro hX1 (And.intro hB1 (And.intro hq1 hE01)));obtain⟨g0q7,g0f,g0l⟩:=hX1.blk.two;clear hX1 hB1 hq1 hE1 hE01 x0q7 x0f x0l HW hWs;have HI0:=ae HI.o.1;clear HI
 cases hsn:qF out s with
 | true=>
  rw[hsn] at hlk;have hrq7:addK c.most s p out=(out,true):=by unfold addK;rw[if_pos hsn]
  have HR:=ae hrq7;clear hrq7 hsn;go_wp2_with(fail);go_ret;rw[HR.o]
  exact⟨A,n,d,L,rfl,H1.o.1,H1.o.2.2.2.mono λ_ h=>h.elim,λb hbq7=>.inl hbq7⟩
 | false=>
  rw[hsn] at hlk;go_upto_region 4 with(fail);clear hlk;refine eB (λ_=>False) [(0,3),(1,3),(2,3),(3,0),(4,3),(5,3),(6,3),(7,3),(8,0),(9,3)] ?_
  iterate 3 refine pf ?_
  refine ph ?_
  iterate 4 refine pf ?_
  refine ph ?_;refine pf ?_;refine aB ?_;by_cases hm:n=c.most
  .have hrq7:addK c.most s p out=(out,false):=by unfold addK;rw[if_neg (by rw[hsn];simp),if_pos (aC H.o.2.2.2)]
   have HR:=ae hrq7;have hbq7:((n:Int) == (c.most:Int))=true:=by rw[beq_iff_eq];omega
   have HM:=ae hm;clear hrq7 hsn hm;go_wp2_with(fail);go_ret;rw[HR.o];exact⟨A,n,d,L,rfl,H1.o.1.on (Fr.refl _ _).drew,(H1.o.2.2.2.mono λ_ h=>h.elim).drew,λb hbq7=>.inl hbq7⟩
  .have hrq7:addK c.most s p out=(out++[(s,p)],true):=by unfold addK;rw[if_neg (by rw[hsn];simp),if_neg (aC H.o.2.2.2)]
   have HR:=ae hrq7;have hbq7:((n:Int) == (c.most:Int))=false:=by rw[beq_eq_false_iff_ne];omega
   have HM:=ae (And.intro hm hsn);clear hrq7 hsn hm;go_upto_region 6 with(fail);have hoq7:=H1.o.1.op.al (w':=World.drew (World.drew w1q7)) rfl;obtain⟨v0,st,w2q7,e2,g2,k2q7⟩:=(H1.o.1.know.al (w':=World.drew (World.drew w1q7)) rfl).entry ad (EX s) (Nat.le_trans (key_len H.o.1.hU.ok H.o.2.1 ad) ad);obtain⟨w3q7,e3,kn3,g3q7⟩:=k2q7 w2q7 rfl;have op3:=(hoq7.al (g2.block _ hoq7.lt λhbq7=>hko (by injection hbq7 with hbq7;exact hbq7.symm))).al (g3q7.block _ (Nat.lt_of_lt_of_le hoq7.lt g2.size) λhbq7=>hko (by injection hbq7 with hbq7;exact hbq7.symm));obtain⟨v4,st4,w4q7,e4q7,g4q7,k4q7⟩:=op3.entry ad;obtain⟨w5q7,e5q7,op5,g5q7⟩:=k4q7 w4q7 rfl;have kn5:=(kn3.al (g4q7.block _ kn3.lt λhbq7=>hko (by injection hbq7))).al (g5q7.block _ (Nat.lt_of_lt_of_le kn3.lt g4q7.size) λhbq7=>hko (by injection hbq7));have r2q7:Fr (λb=>b=c.bKn\/b=c.bOp) (World.drew (World.drew w1q7)) w2q7:=(Fr.refl _ _).grown g2 λg hgq7=>.inl (.inl (by injection hgq7 with hgq7;exact hgq7.symm));have r3q7:Fr (λb=>b=c.bKn\/b=c.bOp) w2q7 w3q7:=(Fr.refl _ _).grown g3q7 λg hgq7=>.inl (.inl (by injection hgq7 with hgq7;exact hgq7.symm));have r4q7:Fr (λb=>b=c.bKn\/b=c.bOp) w3q7 w4q7:=(Fr.refl _ _).grown g4q7 λg hgq7=>.inl (.inr (by injection hgq7 with hgq7;exact hgq7.symm));have r5q7:Fr (λb=>b=c.bKn\/b=c.bOp) w4q7 w5q7:=(Fr.refl _ _).grown g5q7 λg hgq7=>.inl (.inr (by injection hgq7 with hgq7;exact hgq7.symm))
   have H5:=ae (And.intro kn5 (And.intro op5 (And.intro r2q7 (And.intro r3q7 (And.intro r4q7 r5q7)))));have hMg:¬(c.g=c.bKn\/c.g=c.bOp):=λh=>h.elim hgk hgo;clear hoq7 g2 k2q7 kn3 g3q7 op3 g4q7 k4q7 op5 g5q7 kn5 r2q7 r3q7 r4q7 r5q7;refine eB (λb=>b=c.bKn\/b=c.bOp) [(0,3),(1,3),(2,3),(3,0),(4,3),(5,3),(6,3),(7,3),(8,0),(9,3),(10,3),(11,3),(12,0),(13,3),(14,1),(15,3),(16,1),(17,1),(18,3),(19,1)] ?_
   iterate 3 refine pf ?_
   refine bB (v:=?_) rfl (by rfl) (λV hV=>?_) ?_;rotate_left
   .have hVc:=λj=>(Fr.Gi hV).1 c.g j g0l hMg
    (go_simp<;>with_reducible rfl)
   try simp only[PU]
   iterate 4 refine pf ?_
   refine bB (v:=?_) rfl (by rfl) (λV hV=>?_) ?_;rotate_left
   .have hVc:=λj=>(Fr.Gi hV).1 c.g j g0l hMg
    (go_simp<;>with_reducible rfl)
   try simp only[PU]
   iterate 3 refine pf ?_
   refine bB (v:=?_) rfl (by rfl) (λV hV=>?_) ?_;rotate_left
   .have hVc:=λj=>(Fr.Gi hV).1 c.g j g0l hMg
    (go_simp<;>with_reducible rfl)
   try simp only[PU]
   refine pf ?_;refine aD rfl (λK hK=>?_);go_simp;refine dA hK (H5.o.2.2.1) ?_;clear hK K;refine pf ?_;refine aD rfl (λK hK=>?_);go_simp;refine dA hK (H5.o.2.2.2.1) ?_;clear hK K;refine aD rfl (λK hK=>?_);go_simp;refine dA hK (H5.o.2.2.2.2.1) ?_;clear hK K;refine pf ?_;refine aD rfl (λK hK=>?_);go_simp;refine dA hK (H5.o.2.2.2.2.2) ?_;clear hK K;refine aB ?_;clear e2 e3 e4q7 e5q7;have r15:Fr (λb=>b=c.bKn\/b=c.bOp) w1q7 w5q7:=Fr.aJ (Fr.aJ (((H5.o.2.2.1.trans H5.o.2.2.2.1).trans H5.o.2.2.2.2.1).trans H5.o.2.2.2.2.2));have hlt:=H.o.1.lt;have hw1:=H1.o.1.sz;have hwV:c.V<=w.heap.size:=HI0.o.sz;have hown:∀b,(Value.slice A n d).ownBlock=some b->c.V<=b/\b<w.heap.size:=λb hbq7=>HI0.o.own hbq7;have uj:=H1.o.1.row.dh r15 λb hbq7 _=>⟨λhp=>hbq7.elim hp.2.2.1 hp.2.2.2,by rcases hbq7 with rfl|rfl<;>omega⟩
   have hblk:=H1.o.1.blk.on r15 hMg;have hbox:=H1.o.2.1.on r15 (λhbq7=>by rcases hbq7 with h|h<;>omega);have hq5:q.Is w5q7 (kJ c.P w5q7 (.slice A n d)) s:=(H1.o.2.2.1.al λb hbq7=>r15.block b (aC hbq7.2.1) λhm=>hm.elim hbq7.1.2.2.1 hbq7.1.2.2.2).mono λb hbq7=>⟨hbq7.1,by have:=hbq7.2.1;have:=r15.size;omega,hbq7.2.2⟩
   have hMr:¬((Value.slice A n d).ownBlock=some c.g):=λhbq7=>by have:=(hown _ hbq7).1;omega
   have hMs:¬((Value.slice A n d).ownBlock=some w.heap.size):=λhbq7=>by have:=(hown _ hbq7).2;omega
   have s15:=r15.size;have H6:=ae (And.intro r15 (And.intro uj (And.intro hblk (And.intro hbox (And.intro hq5 hown)))));obtain⟨g0q7,g0f,g0l⟩:=hblk.two;obtain⟨x0q7,x0f,x0l⟩:=hbox.two;clear r15 hlt uj hblk hbox hq5 hown;go_upto_region 7 with(fail);refine eB (λb=>(Value.slice A n d).ownBlock=some b) [(0,3),(1,3),(2,3),(3,3),(4,0),(5,0),(6,3),(7,3),(8,3),(9,1),(10,1),(11,3),(12,3),(13,2)] ?_
   iterate 4 refine pf ?_
   refine bB (v:=?_) rfl (by rfl) (λV hV=>?_) ?_;rotate_left
   .have hVc:=λj=>(Fr.twod hV).1 c.g j g0l hMr
    (go_simp<;>with_reducible rfl)
   try simp only[PU]
   refine bB (v:=?_) rfl (by rfl) (λV hV=>?_) ?_;rotate_left
   .have hVc:=λj=>(Fr.twod hV).1 w.heap.size j x0l hMs
    (go_simp<;>with_reducible rfl)
   try simp only[PU]
   iterate 3 refine pf ?_
   refine p2 ?_;refine lH (λV=>Ext w5q7 V/\an V w5q7.heap.size 71 (fdC q (s,par,t)).toArray/\V.heap.size=w5q7.heap.size+1) ⟨by first|exact((Fr.refl _ w5q7).drew).alloc _|exact((Fr.refl _ w5q7).alloc _).drew,by first|exact an.new w5q7 _ _|exact an.new w5q7.drew _ _,by simp⟩ (λU hU=>?_);have HU:=ae hU;clear hU;refine aD rfl (λK hK=>?_);rw[if_pos (by rfl)];refine eK appFd (.tmp 50) (.tmp 55) rfl (H6.o.2.1.aj HU.o.1) (d:=encK (s,par,t)) HU.o.2.1 (encK_iff.2 ⟨q,rfl,((H6.o.2.2.2.2.1.al λb hbq7=>HU.o.1.block b hbq7.2.1 λh=>h).mono λb hbq7=>⟨hbq7.1,by have:=hbq7.2.1;have:=HU.o.2.2;omega,hbq7.2.2⟩)⟩) rfl rfl rfl ad ad (aC HU.o.2.2) ?_;intro A2 c2 w6q7 g1q7 g2 g3q7 g4q7;refine dA hK (g2) ?_;clear hK K;have HG:=ae (And.intro g1q7 (And.intro g2 (And.intro g3q7 g4q7)));clear g1q7 g2 g3q7 g4q7;have hb6:=(H6.o.2.2.1.aj HU.o.1).on HG.o.2.1 hMr;clear g0q7 g0f g0l x0q7 x0f x0l;obtain⟨g0q7,g0f,g0l⟩:=hb6.two;have HB6:=ae hb6;clear hb6
   iterate 2 refine pf ?_
   refine au rfl (λK hK=>?_);go_simp;refine dW hK ?_;clear hK K;refine aB ?_;generalize hZq7:World.setCell _ _ _=Z;obtain⟨hBZ,hFZ⟩:=jR 5 [.slice A2 (n+1) c2] HB6.o hZq7;have HZ:=ae (And.intro hBZ hFZ);clear hZq7 hBZ hFZ g0q7 g0f g0l;go_wp2_with(fail);go_ret;rw[HR.o];have hlt:=H.o.1.lt;have f56:Fr (λb=>(Value.slice A n d).ownBlock=some b) w5q7 w6q7:=Fr.trans (HU.o.1.mono λ_ h=>h.elim) HG.o.2.1;have f6Z:Fr (λb=>b=c.g) w6q7 Z:=HZ.o.2;have fall:Fr (c.M A n d) w Z:=Fr.trans (Fr.trans (Fr.trans (H1.o.2.2.2.mono λ_ h=>h.elim) (H6.o.1.mono λb hbq7=>hbq7.elim (λh=>.inr (.inl h)) λh=>.inr (.inr (.inl h)))) (f56.mono λb hbq7=>.inr (.inr (.inr hbq7)))) (f6Z.mono λb hbq7=>.inl hbq7);have hkeep:∀b,b<w5q7.heap.size->b<c.V->b≠c.g->Z.heap[b]?=w5q7.heap[b]?:=λb hbq7 hvq7 hgq7=>(f6Z.block b (Nat.lt_of_lt_of_le hbq7 f56.size) hgq7).trans (f56.block b hbq7 λhoq7=>by have:=(H6.o.2.2.2.2.2 b hoq7).1;omega);have hlen:=H.o.2.2.2;refine⟨A2,n+1,c2,L++[(s,par,t)],rfl,⟨HZ.o.1,?_,?_,?_,H.o.2.2.1,?_,λk hkq7=>?_,?_,?_⟩,fall,λb hbq7=>?_⟩
   .rw[List.map_append];exact HG.o.1.dh f6Z λb hbq7 _=>⟨λhp=>hp.2.1 hbq7,ad⟩
   .rw[List.map_append];exact H5.o.1.al (hkeep _ H5.o.1.lt hlt.2.2.2.2.1 λh=>hgk h.symm)
   .exact H5.o.2.1.al (hkeep _ H5.o.2.1.lt hlt.2.2.2.2.2 λh=>hgo h.symm)
   .have:=H1.o.1.le;have:=HM.o.1;simp only[List.length_append,List.length_cons,List.length_nil];omega
   .rcases List.mem_append.1 hkq7 with hkq7|hkq7
    .exact H1.o.1.st k hkq7
    .rw[List.mem_singleton.1 hkq7];exact H.o.2.1
   .refine Fr.low (M:=c.M A n d) (Fr.trans (HI0.o.ext.mono λ_ h=>h.elim) fall) λb hbq7=>?_;rcases hbq7 with h|h|h|h
    .omega
    .omega
    .omega
    .have:=(H6.o.2.2.2.2.2 b h).1;omega
   .have:=fall.size;have:=HI0.o.sz;omega
   .rcases HG.o.2.2.1 b hbq7 with h|h
    .exact .inl h
    .right;have:=H6.o.1.size;have:=HU.o.1.size;omega
end
section
theorem addK_cases(most:Nat)(s:ah)(p:List Int)(out:List Kn):∃o b,addK most s p out=(o,b)/\(∃m,o=out++m)/\(b=false->o=out):=by
 unfold addK;split
 .exact⟨_,_,rfl,⟨[],by simp⟩,λh=>by cases h⟩
 .split
  .exact⟨_,_,rfl,⟨[],by simp⟩,λ_=>rfl⟩
  .exact⟨_,_,rfl,⟨_,rfl⟩,λh=>by cases h⟩
theorem goT_skip{u:ax}{most:Nat}{s:ah}{p tsq7:List Int}{t:Int}{out:List Kn}(h:(bs u s t).2=false):xP u most s p (t::tsq7) out=xP u most s p tsq7 out:=by rw[xP,if_pos (.inl h)]
theorem goT_add{u:ax}{most:Nat}{s:ah}{p tsq7:List Int}{t:Int}{out o:List Kn}{b:Bool}(h:(bs u s t).2=true)(haq7:addK most (bs u s t).1 (p++[t]) out=(o,b)) :
  xP u most s p (t::tsq7) out=if b then xP u most s p tsq7 o else (o,false):=by
 unfold addK at haq7;rw[xP];split at haq7
 .rename_i hs;rw[if_pos (.inr hs)];injection haq7 with h1q7 h2q7;subst h1q7 h2q7;rfl
 .rename_i hs;rw[if_neg (by rw[h];simp[hs])];split at haq7<;>(injection haq7 with h1q7 h2q7;subst h1q7 h2q7)
  .rename_i hm;rw[if_pos hm];rfl
  .rename_i hm;rw[if_neg hm];rfl
theorem roundL_at{s:ah}{k:Nat}(h:k<s.threads.length):(m1 s).drop k=(k:Int)::(m1 s).drop (k+1):=by
 refine dropL ?_;unfold m1;rw[List.getElem?_map,List.getElem?_range h];rfl
theorem goI_step{u:ax}{most j m:Nat}{out o:List Kn}{k:Kn}{b:Bool}(hkq7:out[j]?=some k)(h:xP u most k.1 k.2 (m1 k.1) out=(o,b)):Be u most j (m+1) out=if b then Be u most (j+1) m o else (o,b):=by
 rw[Be,hkq7];simp only[h]
def RoundRes(c:SC)(n R:Nat)(r:List Kn×Bool)(e:Ending)(w':World):Prop:=∃A' n' d' i' L',e=.returned (.bool r.2)/\XAt c w' A' n' d' i' (R+1) L' r.1/\(r.2=true->i'=n)/\n<=n'
set_option maxRecDepth 1000000 in
set_option maxHeartbeats 3200000 in
theorem round_any(c:SC)(hc:c.Ok)(w:World)(A:Option Addr)(n d i R:Nat)(L:List Fd)(out:List Kn)(hRq7:R<=900)(h:XAt c w A n d i R L out)(hiq7:i<=n) :
  Calls Tryz.prog 40 #[.pointer (some ⟨c.g,0,none⟩),.int .i64 i] w (RoundRes c n R (Be c.u c.most i (n - i) out)):=by
 have hlen:=h.len;have hnb:n<=500:=by have:=h.le;have:=hc.most;omega
 have H:=ae (And.intro hc (And.intro h hlen));obtain⟨g0q7,g0f,g0l⟩:=h.blk.two;clear h hlen hc;go_enter Tryz.func40,Tryz.ntmps40;go_upto_region 1 with(fail);refine eB (λ_=>False) [(0,3),(1,3),(2,3),(3,3),(4,0),(5,3),(6,3),(7,3)] ?_
 iterate 4 refine pf ?_
 refine ph ?_
 iterate 3 refine pf ?_
 refine aB ?_;clear g0q7 g0f;have h1q7:=H.o.2.1.on ((Fr.refl _ w).drew:Ext w (World.drew w));generalize World.drew w=w1q7 at *;have H1:=ae h1q7;clear h1q7 g0l;go_wp2_with(fail);go_loopw [5] (λivq7 wr=>∃(j n' d':Nat) (A':Option Addr) (L':List Fd) (o m:List Kn),ivq7=.int .i64 j/\i<=j/\j<=n/\XAt c wr A' n' d' j (R+1) L' o/\o=out++m/\Be c.u c.most j (n - j) o=Be c.u c.most i (n - i) out) (λivq7 _=>n - (intOf ivq7).toNat)
 case atStart=>exact⟨i,n,d,A,L,out,[],rfl,ad,hiq7,XAt.up H1.o,by simp,rfl⟩
 case round=>
  obtain⟨j,n',d',A',L',o,m,rfl,hij,hjn,hX,hoq7,hgq7⟩:=hrel;have hn':n<=n'/\n'<=500:=by have h1q7:=hX.len.2;have h2q7:=H.o.2.2.2;have h3q7:=hX.le;have h4q7:=H.o.1.most;rw[hoq7,List.length_append] at h1q7 h3q7;omega
  by_cases hlt:j<n
  .have hlt1:(j:Int)<(n:Int):=ad;obtain⟨w2q7,ed,odq7,gdq7⟩:=hX.op.drop ad 0;have hX2:=hX.turn H.o.1 gdq7 odq7;obtain⟨g0q7,g0f,g0l⟩:=hX.blk.two;have HO:=ae (And.intro hoq7 hgq7);clear hX hoq7 hgq7 odq7 gdq7;go_upto_region 5 with(fail);clear ed g0q7 g0f g0l;obtain⟨b,⟨S',par,pkq7⟩,⟨S,P⟩,q,rfl,hbq7,hbV,hLj,hoj,hsk,hqq7,hcl⟩:=hX2.at_ (j:=j) ad;obtain rfl:S=S':=hsk;have c2:=hcl 2 _ rfl;have hth:S.threads.length=q.hn:=by have:=hqq7.at_.h.1;simpa using this
   have hoo:out[j]?=some (S,P):=by rw[HO.o.1,List.getElem?_append_left (aC H.o.2.2.2)] at hoj;exact hoj
   have hSt:aV c.u R S:=H.o.2.1.st _ (List.mem_of_getElem? hoo);have h32:q.hn<=32:=by have:=hSt.xE;omega
   obtain⟨g0q7,g0f,g0l⟩:=hX2.blk.two;have HS:=ae (And.intro hoo (And.intro hSt (And.intro hX2 hth)));clear hLj hoj hqq7 hcl hth hoo hSt hX2;go_wp2_with(fail);go_loopw [36] (λivq7 wr=>∃(k n2q7 d2:Nat) (A2:Option Addr) (L2:List Fd) (o2q7 m2q7:List Kn),ivq7=.int .i64 k/\k<=q.hn/\XAt c wr A2 n2q7 d2 (j+1) (R+1) L2 o2q7/\o2q7=out++m2q7/\xP c.u c.most S P ((m1 S).drop k) o2q7=xP c.u c.most S P (m1 S) o) (λivq7 _=>q.hn - (intOf ivq7).toNat)
   case atStart=>exact⟨0,n',d',_,L',o,m,rfl,ad,HS.o.2.2.1,HO.o.1,rfl⟩
   case round=>
    clear c2 g0q7 g0f g0l hbq7 hbV;obtain⟨k,n2q7,d2,A2,L2,o2q7,m2q7,rfl,hkq7,hX,ho2,hg2⟩:=hrel;have hn2:n<=n2q7/\n2q7<=500:=by have h1q7:=hX.len.2;have h2q7:=H.o.2.2.2;have h3q7:=hX.le;have h4q7:=H.o.1.most;rw[ho2,List.length_append] at h1q7 h3q7;omega
    by_cases hlk:k<q.hn
    .have hlk1:(k:Int)<(q.hn:Int):=ad;have hjn2:j<n2q7:=ad;obtain⟨b,⟨S',par2,pk2⟩,⟨S2,P2⟩,q3q7,rfl,hbq7,hbV,hLj,hoj,hsk,hqq7,hcl⟩:=hX.at_ (j:=j) ad;have hoj2:=hoj;rw[ho2,List.getElem?_append_left (aC H.o.2.2.2),HS.o.1] at hoj2;injection hoj2 with hoj2;injection hoj2 with e1 e2;subst e1 e2;obtain rfl:S=S':=hsk;have c0:wr.cell? ⟨b,j*6,none⟩=_:=hcl 0 _ rfl;have c1:=hcl 1 _ rfl;have c2:=hcl 2 _ rfl;have c3:=hcl 3 _ rfl;obtain⟨g0q7,g0f,g0l⟩:=hX.blk.two;have hst:∀V,Ext wr V->Calls Tryz.prog 45 #[.agg (c.p.val c.u),.agg (q3q7.val S),.int .i64 k] V (dP mF V (bs c.u S k).1 (bs c.u S k).2):=λV hV=>
      mstep c.u S k R V c.p q3q7 H.o.1.hU HS.o.2.1 ad ((hX.hu H.o.1).on hV) ((hqq7.ok λb hbq7=>hbq7.2.1).on hV)
     have hTq7:aV c.u (R+1) (bs c.u S k).1:=B9 H.o.1.hU.ok HS.o.2.1;have hgo:=roundL_at (s:=S) (k:=k) (aC HS.o.2.2.2);rw[hgo] at hg2;obtain⟨T,bb,hTb⟩:∃T bb,bs c.u S k=(T,bb):=⟨_,_,rfl⟩
     rw[hTb] at hst hTq7;have HK:=ae (And.intro hX (And.intro ho2 (And.intro hg2 (And.intro hTq7 (And.intro hTb hoj)))));have HST:=ae hst;clear hX ho2 hg2 hTq7 hst hgo hTb hoj hqq7 hcl hLj;go_upto_region 8 with(fail);refine sU (λ_=>False) [18] (.free 0 (.free 1 (.free 2 (.held 3 (.free 4 (.free 5 (.free 6 (.held 7 (.free 8 (.free 9 (.free 10 (.held 11 (.free 12 (.pick [13,17] (λi=>bif i == 13 then .free 14 (.free 15 (.free 16 (.pick [17] (λ_=>.pick [18] (λ_=>.free 19 (.stop)))))) else .pick [13] (λ_=>.free 14 (.free 15 (.free 16 (.pick [18] (λ_=>.free 19 (.stop))))))))))))))))))))) ?_
     iterate 3 refine tf ?_
     refine th ?_
     iterate 3 refine tf ?_
     refine th ?_
     iterate 3 refine tf ?_
     refine th ?_;refine tf ?_;refine lM (P:=?pO) (ops:=?F9) (Q:=?Gb) (R:=?Gc) (tails:=?Gh) (rest:=.pick [18] (λ_=>.free 19 (.stop))) (aa:=?FM)
      (C:=λ(gxq7:Nat) (Y:Value) WV=>Ext wr WV/\an WV gxq7 45 #[.slice none 0 0,.slice none 0 0,.slice none 0 0,.int .i64 0]/\wr.heap.size<=gxq7/\∃q':SV,Y=.agg (q'.val T)/\q'.Is WV (λb=>wr.heap.size<=b/\b<WV.heap.size/\b≠gxq7) T) (λkey=>?Bx) ?Bm
     case Bx=>
      refine a5 ?_ ?_
      ·
       refine aG rfl (λK hK=>?_) rfl;go_simp;refine(HST.o wr.drew (Fr.refl _ wr).drew).mono ?_;rintro e w2q7 ⟨q',rfl,hq',hE2⟩;refine dA hK (hE2) ?_;clear hK K
       iterate 3 refine tf ?_
       refine aq ?_;refine dS ?_;generalize hZq7:World.alloc _ _=Z;have e2:Ext w2q7 Z:=by rw[<-hZq7];exact(Fr.refl _ _).alloc _
       have hs2:wr.heap.size<=w2q7.heap.size:=hE2.size;have hs3:=e2.size;have F:Ext wr Z/\an Z w2q7.heap.size 45 #[.slice none 0 0,.slice none 0 0,.slice none 0 0,.int .i64 0]/\wr.heap.size<=w2q7.heap.size/\∃q2q7:SV,(Value.agg (q'.val T))=.agg (q2q7.val T)/\q2q7.Is Z (λb=>wr.heap.size<=b/\b<Z.heap.size/\b≠w2q7.heap.size) T:=
        ⟨(Fr.aJ hE2).trans e2,by rw[<-hZq7];exact an.new _ _ _,hs2,q',rfl,(hq'.al λb hbq7=>e2.block b (hbq7.elim (λh=>h.elim) λh=>h.2) λh=>h).mono λb hbq7=>by
         have hd:wr.drew.heap.size=wr.heap.size:=rfl;have:=hbq7.resolve_left λh=>h;omega⟩
       clear hZq7 e2 hs2 hs3 hq' hE2;revert F;generalize w2q7.heap.size=gxq7;generalize (Value.agg (q'.val T))=Y;intro F;exact key gxq7 Y _ F
      ·
       refine dS ?_;generalize hV2:World.drew (World.alloc _ _)=W1;have e1:Ext wr W1:=by rw[<-hV2];exact((Fr.refl _ _).alloc _).drew
       have hB1:an W1 wr.heap.size 45 #[.slice none 0 0,.slice none 0 0,.slice none 0 0,.int .i64 0]:=by rw[<-hV2];exact an.new _ _ _
       have hs1':=hB1.lt;refine aq ?_;refine aG rfl (λK hK=>?_) rfl;go_simp;refine(HST.o W1 e1).mono ?_;rintro e w2q7 ⟨q',rfl,hq',hE2⟩;refine dA hK (hE2) ?_;clear hK K
       iterate 3 refine tf ?_
       have hs2:=hE2.size;have F:Ext wr w2q7/\an w2q7 wr.heap.size 45 #[.slice none 0 0,.slice none 0 0,.slice none 0 0,.int .i64 0]/\wr.heap.size<=wr.heap.size/\∃q2q7:SV,(Value.agg (q'.val T))=.agg (q2q7.val T)/\q2q7.Is w2q7 (λb=>wr.heap.size<=b/\b<w2q7.heap.size/\b≠wr.heap.size) T:=
        ⟨e1.trans hE2,hB1.aj hE2,Nat.le_refl _,q',rfl,hq'.mono λb hbq7=>by
         have:=hbq7.resolve_left λh=>h;omega⟩
       clear hV2 e1 hB1 hs1' hs2 hq' hE2;revert F key;generalize (Value.agg (q'.val T))=Y;intro key F;exact key wr.heap.size Y _ F
     case Bm=>
      rintro gxq7 Y WV ⟨hE4,hBx,hgx,⟨SC,cmq7,cdq7,TC,tm2,td2,HC,hm2,hd2⟩,rfl,hq4⟩;dsimp only[SV.val];obtain⟨x0q7,x0f,x0l⟩:=hBx.two;clear g0q7 g0f c0 c1 c2 c3;refine aq ?_;refine bA rfl (λK hK=>?_) rfl;go_simp;refine dW hK ?_;clear hK K;refine tf ?_;refine cr ?_;generalize hX:World.setCell _ _ _=X;obtain⟨hBX,hEX,hFX⟩:=cO (w:=wr) [.slice SC cmq7 cdq7,.slice TC tm2 td2,.slice HC hm2 hd2,.int .i64 T.fault] (by rfl) hBx hE4 hgx hX;have hq5:(⟨SC,cmq7,cdq7,TC,tm2,td2,HC,hm2,hd2⟩:SV).Is X (λb=>wr.heap.size<=b/\b<X.heap.size) T:=(hq4.al λb hbq7=>hFX.block b hbq7.2.1 hbq7.2.2).mono λb hbq7=>⟨hbq7.1,by have:=hFX.size;have:=hbq7.2.1;omega⟩
      have HX4:=ae (And.intro hEX (And.intro hq5 hBX));have hXs:=hEX.size;obtain⟨x0q7,x0f,x0l⟩:=hBX.two;clear hX hBx hE4 hq4 hFX hEX hq5 hBX HST
      cases bb with
      | false=>
       go_wp2_with(fail);go_roundw
       case rel=>exact⟨k+1,n2q7,d2,_,L2,o2q7,m2q7,by go_num,ad,HK.o.1.on HX4.o.1,HK.o.2.1,by rw[<-HK.o.2.2.1,goT_skip (by rw[HK.o.2.2.2.2.1])]⟩
       case measure=>simp[intOf];omega
      | true=>
       obtain⟨o3q7,b3q7,haq7,⟨m3q7,hm3⟩,hb3⟩:=addK_cases c.most T (P++[(k:Int)]) o2q7;have hlt:=H.o.1.lt;have hsz:=HK.o.1.sz;have hadd:=add_any c H.o.1 X _ n2q7 d2 (j+1) (R+1) L2 o2q7 ad (HK.o.1.on HX4.o.1) T ⟨SC,cmq7,cdq7,TC,tm2,td2,HC,hm2,hd2⟩ (j:Nat) k (P++[(k:Int)]) HK.o.2.2.2.1 (HX4.o.2.1.mono λb hbq7=>⟨⟨ad,ad,ad,ad⟩,hbq7.2,λhoq7=>by have:=(HK.o.1.own hoq7).2;omega⟩) (HK.o.1.fd.add HK.o.2.2.2.2.2 T k);rw[haq7] at hadd;have HA:=ae hadd;have HB:=ae (And.intro haq7 (And.intro hm3 hb3));clear hadd haq7 hm3 hb3 hlt hsz;go_wp2_with(fail);refine HA.o.mono ?_;rintro e w5q7 ⟨A5q7,n5q7,d5,L5,rfl,hX5,hF5,hN5⟩;have HX5:=ae (show XAt c w5q7 A5q7 n5q7 d5 (j+1) (R+1) L5 o3q7 from hX5);clear hX5 hF5 hN5 HA x0q7 x0f x0l
       cases b3q7 with
       | true=>
        go_wp2_with(fail);go_roundw
        case rel=>exact⟨k+1,n5q7,d5,_,L5,o3q7,m2q7++m3q7,by go_num,ad,HX5.o,by rw[HB.o.2.1,HK.o.2.1,List.append_assoc],by rw[<-HK.o.2.2.1,goT_add (b:=true) (by rw[HK.o.2.2.2.2.1]) (by rw[HK.o.2.2.2.2.1];exact HB.o.1)];rfl⟩
        case measure=>simp[intOf];omega
       | false=>
        go_wp2_with(fail);go_ret;have h1q7:xP c.u c.most S P (m1 S) o=(o3q7,false):=by
         rw[<-HK.o.2.2.1,goT_add (b:=false) (by rw[HK.o.2.2.2.2.1]) (by rw[HK.o.2.2.2.2.1];exact HB.o.1)];rfl
        have h2q7:Be c.u c.most i (n - i) out=(o3q7,false):=by
         rw[<-HO.o.2,show n - j=(n - j - 1)+1 by omega,goI_step (k:=(S,P)) (by rw[HO.o.1,List.getElem?_append_left (aC H.o.2.2.2)];exact HS.o.1) h1q7];rfl
        rw[h2q7];exact⟨A5q7,n5q7,d5,j+1,L5,rfl,HX5.o,λh=>(by cases h),by have h3q7:=HX5.o.len.2;have h4q7:=H.o.2.2.2;rw[HB.o.2.1,HK.o.2.1,List.length_append,List.length_append] at h3q7;omega⟩
    .obtain rfl:k=q.hn:=ad;have hd:(m1 S).drop q.hn=[]:=List.drop_of_length_le (by unfold m1;rw[List.length_map,List.length_range];have:=HS.o.2.2.2;omega);rw[hd,xP] at hg2;have HK:=ae (And.intro hX (And.intro ho2 hg2));clear hX ho2 hg2 hd;go_wp2_with(fail);go_roundw
     case rel=>
      refine⟨j+1,n2q7,d2,A2,L2,o2q7,m2q7,by go_num,ad,ad,HK.o.1,HK.o.2.1,?_⟩;rw[<-HO.o.2,show n - j=(n - (j+1))+1 by omega,goI_step (k:=(S,P)) (by rw[HO.o.1,List.getElem?_append_left (aC H.o.2.2.2)];exact HS.o.1) HK.o.2.2.symm];rfl
     case measure=>simp[intOf];omega
  .obtain rfl:j=n:=ad;rw[Nat.sub_self,Be] at hgq7;have HK:=ae (And.intro hX hgq7);clear hX hoq7 hgq7;go_wp2_with(fail);go_ret;rw[<-HK.o.2];exact⟨A',n',d',j,L',rfl,HK.o.1,λ_=>rfl,hn'.1⟩
end
section
theorem goR_end{u:ax}{most:Nat}:∀(r:Nat) (o:List Kn),Fo u most r o.length o=(o,true)
 | 0,o=>rfl
 | r+1,o=>by
  have h:Be u most o.length (o.length - o.length) o=(o,true):=by rw[Nat.sub_self];rfl
  rw[Fo,h];exact goR_end r o
theorem goR_step{u:ax}{most r i:Nat}{o o2q7:List Kn}{b:Bool}(h:Be u most i (o.length - i) o=(o2q7,b)):Fo u most (r+1) i o=if b then Fo u most r o.length o2q7 else (o2q7,b):=by
 rw[Fo];simp only[h]
def ExpRes(u:ax)(w:World)(r:List Kn×Bool)(e:Ending)(w':World):Prop:=∃c A n d i R L,SC.Ok c/\c.u=u/\c.wold=w/\e=.returned (.tuple #[.pointer (some ⟨c.g,0,none⟩),.bool r.2])/\XAt c w' A n d i R L r.1/\R<=201
set_option maxRecDepth 1000000 in
set_option maxHeartbeats 3200000 in
theorem explore_any(u:ax)(w:World)(p:UV)(steps most:Int)(hU:x0 u)(hAq7:AiC)(hu:p.Ok w u)(ht:TabU w.heap.size w) :
  Calls Tryz.prog 19 #[.agg (p.val u),.int .i64 steps,.int .i64 most] w (ExpRes u w (oQ u steps most)):=by
 have H:=ae (And.intro hU (And.intro hAq7 (And.intro hu ht)));clear hU hAq7 hu ht;have hmm:=@run_makeMap Tryz.prog;dsimp only[UV.val];go_enter Tryz.func19,Tryz.ntmps19;go_upto_region 1 with(fail);generalize hWq7:World.alloc _ _=W;have hEq7:Ext w W:=by rw[<-hWq7];exact(Fr.refl _ _).alloc _
 have hBq7:an W w.heap.size 30 #[.slice p.GA p.gn p.gc,.slice p.MA p.mn p.mc,.slice p.PA p.pn p.pc,.int .i64 u.main]:=by rw[<-hWq7];exact an.new _ _ _
 have HW:=ae (And.intro hEq7 hBq7);have hWs:=hBq7.lt;obtain⟨x0q7,x0f,x0l⟩:=hBq7.two;clear hWq7 hEq7 hBq7;go_upto_region 2 with(fail);have hmo:min (max most 1) 500=((o8 most:Nat):Int):=by unfold o8;omega
 rw[hmo];have hmb:1<=o8 most/\o8 most<=500:=ad;generalize hV:World.alloc _ _=V;have hEV:Ext W V:=by rw[<-hV];exact(((Fr.refl _ _).alloc _).alloc _).alloc _
 obtain⟨c,hcg,hcu,hcw,hcm,hc,hX⟩:∃c:SC,W.heap.size+1+1=c.g/\c.u=u/\c.wold=w/\c.most=o8 most/\c.Ok/\XAt c V none 0 0 0 0 [] []:=by
  have hs1:(World.alloc W (.map #[] 0)).heap.size=W.heap.size+1:=by simp
  refine⟨⟨u,p,o8 most,w,W.heap.size+1+1+1,W.heap.size+1+1,W.heap.size,W.heap.size+1⟩,rfl,rfl,rfl,rfl,⟨H.o.1,H.o.2.2.1,H.o.2.2.2,H.o.2.1,hmb,?_,?_⟩,⟨?_,Gr.nil _ _ _ _ _,?_,?_,FdOk.nil,Nat.zero_le _,λk hkq7=>by simp at hkq7,HW.o.1.trans hEV,?_⟩⟩
  .have:=HW.o.1.size;show w.heap.size<=W.heap.size+1+1/\w.heap.size<=W.heap.size/\w.heap.size<=W.heap.size+1/\W.heap.size+1+1<W.heap.size+1+1+1/\W.heap.size<W.heap.size+1+1+1/\W.heap.size+1<W.heap.size+1+1+1
   omega
  .show W.heap.size+1+1≠W.heap.size/\W.heap.size+1+1≠W.heap.size+1/\W.heap.size≠W.heap.size+1
   omega
  .rw[<-hV];exact an.fu _ _ _ (by simp)
  .rw[<-hV];exact((Knows.made W).al (Below.heap_alloc _ _ _ (Knows.made W).lt)).al (Below.heap_alloc _ _ _ (by simp;omega))
  .rw[<-hV];have h1q7:=Opens.made (World.alloc W (.map #[] 0));rw[hs1] at h1q7;exact h1q7.al (Below.heap_alloc _ _ _ h1q7.lt)
  .show W.heap.size+1+1+1<=V.heap.size
   rw[<-hV];simp
 rw[hcg];subst hcu;have hBV:=HW.o.2.aj hEV;have HC:=ae (And.intro hc (And.intro hX (And.intro hcw hcm)));have hPV:p.Ok V c.u:=H.o.2.2.1.on (HW.o.1.trans hEV);have HP:=ae hPV;clear hV hEV hmo hcg hc hX hcw x0q7 x0f x0l hPV hmb;obtain⟨x0q7,x0f,x0l⟩:=hBV.two;clear hBV;go_wp2_with(fail);refine(mnew c.u V p H.o.1 HP.o).mono ?_;rintro e w1q7 ⟨q,rfl,hqq7,hE1⟩;have hadd:=add_any c HC.o.1 w1q7 none 0 0 0 0 [] [] ad (HC.o.2.1.on hE1) (dO c.u) q (-1) 0 [] (C2 H.o.1.ok) (hqq7.mono λb hbq7=>by
  have h1q7:=hbq7.resolve_left λh=>h;have h2q7:=HC.o.1.lt;have h3q7:=HC.o.2.1.sz;exact⟨⟨ad,ad,ad,ad⟩,h1q7.2,λh=>by simp[Value.ownBlock] at h⟩) (FdOk.one _ _)
 rw[show addK c.most (dO c.u) [] []=([(dO c.u,[])],true) by have:=HC.o.1.most;unfold addK qF;simp;omega] at hadd;have HA:=ae hadd;clear hadd hqq7 hE1 x0q7 x0f x0l;go_wp2_with(fail);refine HA.o.mono ?_;rintro e w2q7 ⟨A,n,d,L,rfl,hX,_,_⟩;have hX':XAt c w2q7 A n d 0 0 L [(dO c.u,[])]:=hX;have HX:=ae hX';clear hX hX' HA;go_wp2_with(fail);obtain⟨T,hTq7,hT2⟩:∃T:Nat,min (max steps 0) 200=(T:Int)/\(min (max steps 0) 200).toNat=T:=⟨_,ad,rfl⟩
 have hTb:T<=200:=ad;rw[hTq7];have hexp:oQ c.u steps most=Fo c.u c.most T 0 [(dO c.u,[])]:=by unfold oQ;rw[hT2,HC.o.2.2.2]
 have HT:=ae hexp;clear hTq7 hT2 hexp;go_loopw [9,26] (λfvq7 ivq7 wr=>∃(r fr n' d':Nat) (A':Option Addr) (L':List Fd) (o:List Kn),fvq7=.int .i64 fr/\ivq7=.int .i64 r/\r<=T/\fr<=n'/\XAt c wr A' n' d' fr r L' o/\Fo c.u c.most (T - r) fr o=Fo c.u c.most T 0 [(dO c.u,[])]) (λ_ ivq7 _=>T - (intOf ivq7).toNat)
 case atStart=>exact⟨0,0,n,d,A,L,_,rfl,rfl,ad,ad,HX.o,rfl⟩
 case round=>
  obtain⟨r,fr,n',d',A',L',o,rfl,rfl,hrq7,hfr,hX,hgq7⟩:=hrel;have hlen:=hX.len.2;have hnb:n'<=500:=by have h3q7:=hX.le;have h4q7:=HC.o.1.most;omega
  by_cases hlt:r<T
  .have hlt1:(r:Int)<(T:Int):=ad;obtain⟨m,hm,hm0,hl⟩:=hX.op.len 3;obtain⟨g0q7,g0f,g0l⟩:=hX.blk.two;by_cases hzq7:m=0
   .subst hzq7;have HK:=ae (And.intro hX (And.intro hgq7 (And.intro hlen (show fr=n' by have:=hm0 rfl;omega))));clear hX hgq7 hlen hm0 hm;go_wp2_with(fail)
    go_ret2
    have h1q7:=HK.o.2.1;rw[show fr=o.length by have:=HK.o.2.2.1;have:=HK.o.2.2.2;omega,goR_end] at h1q7;rw[HT.o,<-h1q7];exact⟨c,A',n',d',fr,r,L',HC.o.1,rfl,HC.o.2.2.1,rfl,HK.o.1,ad⟩
   .have hbq7:((m:Int) == 0)=false:=by rw[beq_eq_false_iff_ne];omega
    obtain⟨o2q7,b,ho2⟩:∃o2q7 b,Be c.u c.most fr (n' - fr) o=(o2q7,b):=⟨_,_,rfl⟩
    have hrd:=round_any c HC.o.1 wr A' n' d' fr r L' o ad hX hfr;rw[ho2] at hrd;have h1q7:=goR_step (r:=T - r - 1) (o2q7:=o2q7) (b:=b) (show Be c.u c.most fr (o.length - fr) o=(o2q7,b) by rw[hlen];exact ho2);rw[show T - r - 1+1=T - r by omega,hgq7] at h1q7;have HK:=ae (And.intro hrd (And.intro h1q7 hlen));clear hX hgq7 hlen hm0 hm hzq7 hrd h1q7 ho2;go_wp2_with(fail);refine HK.o.1.mono ?_;rintro e w5q7 ⟨A5q7,n5q7,d5,i5,L5,rfl,hX5,hi5,hn5⟩;have HX5:=ae (And.intro (show XAt c w5q7 A5q7 n5q7 d5 i5 (r+1) L5 o2q7 from hX5) hi5);clear hX5 hi5 g0q7 g0f g0l
    cases b with
    | false=>
     go_wp2_with(fail)
     go_ret2
     have h1q7:Fo c.u c.most T 0 [(dO c.u,[])]=(o2q7,false):=HK.o.2.1;rw[HT.o,h1q7]
     exact⟨c,A5q7,n5q7,d5,i5,r+1,L5,HC.o.1,rfl,HC.o.2.2.1,rfl,HX5.o.1,ad⟩
    | true=>
     go_wp2_with(fail);go_roundw
     case rel=>exact⟨r+1,n',n5q7,d5,A5q7,L5,o2q7,by first|rfl|go_num,by go_num,ad,hn5,by have h1q7:i5=n':=HX5.o.2 (by first|rfl|trivial);rw[<-h1q7];exact HX5.o.1,by have h1q7:Fo c.u c.most T 0 [(dO c.u,[])]=Fo c.u c.most (T - r - 1) o.length o2q7:=HK.o.2.1;rw[h1q7,HK.o.2.2];rfl⟩
     case measure=>simp[intOf];omega
  .obtain rfl:r=T:=ad;rw[Nat.sub_self,Fo] at hgq7;have HK:=ae (And.intro hX hgq7);clear hX hgq7 hlen;go_wp2_with(fail)
   go_ret2
   rw[HT.o,<-HK.o.2];exact⟨c,A',n',d',fr,r,L',HC.o.1,rfl,HC.o.2.2.1,rfl,HK.o.1,ad⟩
end
section
theorem appS:b2 Tryz.prog 38 45 (.agg #[.slice none 0 0,.slice none 0 0,.slice none 0 0,.int .i64 0]) 4 80:=b2.mk' Tryz.underlying38 (by kernel_rfl) rfl ad
def StatesRes(w:World)(r:List Kn×Bool)(e:Ending)(w':World):Prop:=∃A n d,e=.returned (.tuple #[.slice A n d,.bool r.2])/\r.1.length=n/\n<=d/\Sl w' (av w') A n (r.1.map λk=>FR k.1)/\Ext w w'
theorem take_at{α:Type}{l:List α}{k:Nat}{x:α}(h:l[k]?=some x):l.take (k+1)=l.take k++[x]:=by
 obtain⟨hkq7,hx⟩:=List.getElem?_eq_some_iff.1 h;rw[List.take_succ_eq_append_getElem hkq7,hx]
set_option maxRecDepth 1000000 in
set_option maxHeartbeats 3200000 in
theorem states_any(u:ax)(w:World)(p:UV)(steps most:Int)(hU:x0 u)(hAq7:AiC)(hu:p.Ok w u)(ht:TabU w.heap.size w) :
  Calls Tryz.prog 8 #[.agg (p.val u),.int .i64 steps,.int .i64 most] w (StatesRes w (oQ u steps most)):=by
 have H:=ae (And.intro hU (And.intro hAq7 (And.intro hu ht)));clear hU hAq7 hu ht;dsimp only[UV.val];go_enter Tryz.func8,Tryz.ntmps8;go_upto_region 1 with(fail);generalize hWq7:World.alloc _ _=W;have hEq7:Ext w W:=by rw[<-hWq7];exact(Fr.refl _ _).alloc _
 have hBq7:an W w.heap.size 30 #[.slice p.GA p.gn p.gc,.slice p.MA p.mn p.mc,.slice p.PA p.pn p.pc,.int .i64 u.main]:=by rw[<-hWq7];exact an.new _ _ _
 have HW:=ae hEq7;obtain⟨x0q7,x0f,x0l⟩:=hBq7.two;clear hWq7 hEq7 hBq7;go_wp2_with(fail);refine(explore_any u W p steps most H.o.1 H.o.2.1 (H.o.2.2.1.on HW.o) (λw' hbq7=>(H.o.2.2.2.on HW.o.ext) w' (hbq7.mono HW.o.size))).mono ?_;rintro e w1q7 ⟨c,A,n,d,i,R,L,hc,hcu,hcw,rfl,hX,hRq7⟩;generalize hrq7:oQ u steps most=r at *;obtain⟨out,all⟩:=r;have hX:XAt c w1q7 A n d i R L out:=hX;have hlen:=hX.len;have hn5:n<=500:=by have:=hX.le;have:=hc.most;omega
 have hE1:Ext w w1q7:=HW.o.trans (by rw[<-hcw];exact hX.ext);obtain⟨g0q7,g0f,g0l⟩:=hX.blk.two;have HX:=ae (And.intro hX (And.intro hlen hE1));have g1q7:Gr (λb=>b<w1q7.heap.size) w1q7.heap.size 45 4 w1q7 none 0 0 ((out.take 0).map λk=>FR k.1):=Gr.nil _ _ _ _ _;have HG:=ae g1q7;clear hX hlen hE1 x0q7 x0f x0l g1q7 hrq7 hc hcw hcu;go_wp2_with(fail);go_loopw [10,25] (λovq7 ivq7 wr=>∃(k dcq7:Nat) (D:Option Addr),ovq7=.slice D k dcq7/\ivq7=.int .i64 k/\k<=n/\Ext w1q7 wr/\Gr (λb=>b<w1q7.heap.size) w1q7.heap.size 45 4 wr D k dcq7 ((out.take k).map λk=>FR k.1)) (λ_ ivq7 _=>n - (intOf ivq7).toNat)
 case atStart=>exact⟨0,0,none,rfl,rfl,ad,Fr.refl _ _,HG.o⟩
 case round=>
  clear g0q7 g0f g0l;obtain⟨k,dcq7,D,rfl,rfl,hkq7,hEr,hGr⟩:=hrel;have hsr:=hEr.size;by_cases hlt:k<n
  .have hlt1:(k:Int)<(n:Int):=ad;obtain⟨b,⟨S',par,pkq7⟩,⟨S,P⟩,q,rfl,hbq7,hbV,hLj,hoj,hsk,hqq7,hcl⟩:=HX.o.1.at_ hlt;obtain rfl:S=S':=hsk;have c0:wr.cell? ⟨b,k*6,none⟩=_:=(hEr.cell hbq7 λh=>h).trans (hcl 0 _ rfl);have c1:=(hEr.cell hbq7 λh=>h).trans (hcl 1 _ rfl);have c2:=(hEr.cell hbq7 λh=>h).trans (hcl 2 _ rfl);have c3:=(hEr.cell hbq7 λh=>h).trans (hcl 3 _ rfl);have c4q7:=(hEr.cell hbq7 λh=>h).trans (hcl 4 _ rfl);have c5q7:=(hEr.cell hbq7 λh=>h).trans (hcl 5 _ rfl);have hbr:=Nat.lt_of_lt_of_le hbq7 hsr;have HK:=ae (And.intro hqq7 (And.intro hoj (And.intro hEr hGr)));clear hLj hoj hqq7 hcl hEr hGr;go_upto_region 6 with(fail);generalize hZq7:World.alloc _ _=Z;have hEZ:Ext wr Z:=by rw[<-hZq7];exact(Fr.refl _ _).alloc _
   have hBZ:an Z wr.heap.size 71 (fdC q (S,par,pkq7)).toArray:=by rw[<-hZq7];exact an.new _ _ _
   have hZs:=hEZ.size;have hE1Z:=HK.o.2.2.1.trans hEZ;have hqZ:q.Is Z (kJ (λb=>b<w1q7.heap.size) Z (.slice D k dcq7)) S:=(HK.o.1.al λb hbq7=>hE1Z.block b hbq7.2.1 λh=>h).mono λb hbq7=>⟨hbq7.2.1,by have:=hbq7.2.1;omega,λhoq7=>by have:=(HK.o.2.2.2.lt hoq7).1;have:=hbq7.2.1;omega⟩
   have HZ:=ae (And.intro hE1Z (And.intro hqZ (HK.o.2.2.2.aj hEZ)));obtain⟨z0q7,z0f,z0l⟩:=hBZ.two;clear hZq7 hEZ hBZ hE1Z hqZ c0 c1 c2 c3 c4q7 c5q7;go_wp2_with(at_builtin;refine bN appS rfl (.tmp 29) (.tmp 32) rfl HZ.o.2.2 (d:=FR S) (cs:=#[.slice q.GA q.gn q.gc,.slice q.TA q.tn q.tc,.slice q.HA q.hn q.hc,.int .i64 S.fault]) (FT.2 ⟨_,_,_,_,_,_,_,_,_,rfl,HZ.o.2.1.gc,HZ.o.2.1.tc,HZ.o.2.1.hc,HZ.o.2.1.at_⟩) rfl rfl rfl ad ad ad ?_;intro A3q7 c3 w3q7 g1q7 g2 g3q7 g4q7;have HN:=ae (And.intro g1q7 g2);clear g1q7 g2 g3q7 g4q7);go_roundw
   case rel=>
    refine⟨k+1,c3,A3q7,by first|rfl|go_num,by go_num,ad,?_,?_⟩
    .exact Fr.low (M:=λb=>(Value.slice D k dcq7).ownBlock=some b) (Fr.trans (HZ.o.1.mono λ_ h=>h.elim) HN.o.2) λb hbq7=>(HZ.o.2.2.lt hbq7).1
    .rw[take_at HK.o.2.1,List.map_append];exact HN.o.1
   case measure=>simp[intOf];omega
  .obtain rfl:k=n:=ad;have HK:=ae (And.intro hEr hGr);clear hEr hGr;go_wp2_with(fail)
   go_ret2
   have h1q7:=HK.o.2;rw[List.take_of_length_le (aC HX.o.2.1.2)] at h1q7;exact⟨D,k,dcq7,rfl,HX.o.2.1.2,h1q7.cap.1,h1q7.sl (λb hbq7 _=>hbq7) (λb hbq7 _=>hbq7),HX.o.2.2.trans HK.o.1⟩
end
section
def RevI(xs ysq7:List Int)(i:Nat):Prop:=ysq7.length=xs.length/\∀k,k<xs.length->ysq7[k]?=if k<i\/xs.length<=k+i then xs[xs.length - 1 - k]? else xs[k]?
theorem RevI.done{xs ysq7:List Int}{i:Nat}(h:RevI xs ysq7 i)(hiq7:xs.length<=2*i+1):ysq7=xs.reverse:=by
 apply List.ext_getElem?
 intro k;by_cases hkq7:k<xs.length
 .rw[h.2 k hkq7,List.getElem?_reverse hkq7];split
  .rfl
  .rw[show xs.length - 1 - k=k by omega]
 .rw[List.getElem?_eq_none_iff.2 (aC h.1),List.getElem?_eq_none_iff.2 (by simp;omega)]
theorem RevI.step{xs ysq7:List Int}{i j:Nat}(h:RevI xs ysq7 i)(hjq7:i+j+1=xs.length)(hij:i<j){x y:Int}(hx:ysq7[i]?=some x)(hyq7:ysq7[j]?=some y):RevI xs ((ysq7.set i y).set j x) (i+1):=by
 have hl:=h.1;refine⟨by simp[hl],λk hkq7=>?_⟩;have hi2:=h.2 i ad;have hj2:=h.2 j ad;rw[if_neg ad] at hi2 hj2;by_cases hkj:k=j
 .subst hkj;rw[List.getElem?_set_self (by simp;omega),if_pos ad,show xs.length - 1 - k=i by omega,<-hi2,hx]
 .rw[List.getElem?_set_ne (λh=>hkj h.symm)];by_cases hki:k=i
  .subst hki;rw[List.getElem?_set_self ad,if_pos ad,show xs.length - 1 - k=j by omega,<-hj2,hyq7]
  .rw[List.getElem?_set_ne (λh=>hki h.symm),h.2 k hkq7];by_cases hc:k<i\/xs.length<=k+i
   .rw[if_pos hc,if_pos ad]
   .rw[if_neg hc,if_neg ad]
theorem own_set{w:World}{B g n c j:Nat}{e:TypeId}{xs:List Value}(h:w.ownsRow B e 1 (.slice (some ⟨g,0,none⟩) n c) n xs)(hjq7:j<n)(u:Value):(w.setCell ⟨g,j,none⟩ u).ownsRow B e 1 (.slice (some ⟨g,0,none⟩) n c) n (xs.set j u):=by
 obtain⟨g',hAq7,_,_,_,_,hs⟩:=kQ h ad;injection hAq7 with hAq7;injection hAq7 with hAq7;subst hAq7;exact hs j u ad
set_option maxRecDepth 1000000 in
set_option maxHeartbeats 1600000 in
theorem reverse_any(A:Option Addr)(n c B:Nat)(xs:List Int)(w:World)(hn:xs.length=n)(hbq7:n<=1000000)(h:w.ownsRow B 3 1 (.slice A n c) n (xs.map dK)) :
  Calls Tryz.prog 26 #[.slice A n c] w λe w'=>e=.returned (.tuple #[])/\w'.ownsRow B 3 1 (.slice A n c) n (xs.reverse.map dK)/\Fr (λb=>(Value.slice A n c).ownBlock=some b) w w':=by
 have H:=ae (And.intro h hn);clear h hn;go_enter Tryz.func26,Tryz.ntmps26;go_wp2_with(fail);go_loopw [2,3] (λivq7 jvq7 wr=>∃(i:Nat) (ysq7:List Int),ivq7=.int .i64 i/\jvq7=.int .i64 ((n:Int) - 1 - (i:Int))/\(i=0\/2*i<=n)/\RevI xs ysq7 i/\wr.ownsRow B 3 1 (.slice A n c) n (ysq7.map dK)/\Fr (λb=>(Value.slice A n c).ownBlock=some b) w wr) (λivq7 _ _=>n - (intOf ivq7).toNat)
 case atStart=>exact⟨0,xs,rfl,by go_num,.inl rfl,⟨rfl,λk hkq7=>by rw[if_neg ad]⟩,H.o.1,Fr.refl _ _⟩
 case round=>
  obtain⟨i,ysq7,rfl,rfl,hiq7,hRq7,hoq7,hF⟩:=hrel;by_cases hlt:(i:Int)<(n:Int) - 1 - (i:Int)
  .obtain⟨j,hjq7⟩:∃j:Nat,(n:Int) - 1 - (i:Int)=(j:Int):=⟨n - 1 - i,ad⟩
   rw[hjq7] at hlt ⊢;have hij:i<j:=ad;have hin:i<n:=ad;have hjn:j<n:=ad;have hsum:i+j+1=n:=ad;have hyl:ysq7.length=n:=by rw[hRq7.1];exact H.o.2
   obtain⟨g,rfl,hgB,hgs,hc,hfq7,hset⟩:=kQ hoq7 ad;obtain⟨x,hx⟩:∃x,ysq7[i]?=some x:=⟨_,List.getElem?_eq_getElem ad⟩
   obtain⟨y,hyq7⟩:∃y,ysq7[j]?=some y:=⟨_,List.getElem?_eq_getElem ad⟩
   have ci:wr.cell? ⟨g,i,none⟩=some (.int .i64 x):=hc i _ (by rw[List.getElem?_map,hx];rfl);have cjq7:wr.cell? ⟨g,j,none⟩=some (.int .i64 y):=hc j _ (by rw[List.getElem?_map,hyq7];rfl);have fiq7:=hfq7 i;have fjq7:=hfq7 j;have HK:=ae (And.intro hRq7 (And.intro hoq7 (And.intro hF (And.intro hx (And.intro hyq7 (And.intro hsum hyl))))));clear hjq7 hiq7 hRq7 hoq7 hF hc hfq7 hset hx hyq7 hsum hyl;go_upto_region 3 with(fail);refine eB (λ_=>False) [(0,3),(1,3),(2,3),(3,3),(4,3),(5,3),(6,3),(7,0),(8,3),(9,3),(10,3),(11,0),(12,3),(13,2),(14,3),(15,2)] ?_
   iterate 7 refine pf ?_
   refine ph ?_
   iterate 3 refine pf ?_
   refine ph ?_;refine pf ?_;refine au rfl (λK hK=>?_);go_simp;refine dW hK ?_;clear hK K;refine pf ?_;refine au rfl (λK hK=>?_);go_simp;refine dW hK ?_;clear hK K;refine aB ?_;generalize hZq7:World.drew (World.setCell _ _ _)=Z;have hoZ:Z.ownsRow B 3 1 (.slice (some ⟨g,0,none⟩) n c) n (((ysq7.set i y).set j x).map dK):=by
    rw[<-hZq7,List.map_set,List.map_set];exact own_set (own_set HK.o.2.1 hin _) hjn _
   have hFZ:Fr (λb=>(Value.slice (some ⟨g,0,none⟩) n c).ownBlock=some b) wr Z:=by
    rw[<-hZq7];have f1:Fr (λb=>(Value.slice (some ⟨g,0,none⟩) n c).ownBlock=some b) wr (wr.setCell ⟨g,i,none⟩ (.int .i64 y)):=Fr.setCell (p:=⟨g,i,none⟩) (Fr.refl (λb=>(Value.slice (some ⟨g,0,none⟩) n c).ownBlock=some b) wr) (.inl rfl) _;exact(Fr.setCell (p:=⟨g,j,none⟩) f1 (.inl rfl) _).drew
   have HZ:=ae (And.intro hoZ hFZ);clear hZq7 hoZ hFZ ci cjq7 fiq7 fjq7;go_wp2_with(fail);go_roundw
   case rel=>
    have hsum:=HK.o.2.2.2.2.2.1;exact⟨i+1,_,by go_num,by go_num,.inr ad,HK.o.1.step (mI H.o.2 HK.o.2.2.2.2.2.1) hij HK.o.2.2.2.1 HK.o.2.2.2.2.1,HZ.o.1,HK.o.2.2.1.trans HZ.o.2⟩
   case measure=>simp[intOf];omega
  .have h1q7:=hRq7.done (aC H.o.2);have HK:=ae (And.intro h1q7 (And.intro hoq7 hF));clear h1q7 hRq7 hoq7 hF;go_wp2_with(fail);refine bodyPost_end (v:=.tuple #[]) (by simp[results,Tryz.results26,go_sem]) rfl ?_;refine⟨rfl,?_,HK.o.2.2⟩;have h2q7:=HK.o.2.1;rw[HK.o.1,List.map_reverse] at h2q7
   first|exact h2q7|(rw[List.map_reverse];exact h2q7)
def deadK(u:ax)(k:Kn):Bool:=decide (0<(ni (da u k.1)).length)
def searchP(u:ax)(steps most:Int):List Int×Bool:=match (oQ u steps most).1.find? (deadK u) with
 | some k=>(k.2,true)
 | none=>([],false)
def SearchRes(w:World)(r:List Int×Bool)(e:Ending)(w':World):Prop:=∃A n d,e=.returned (.tuple #[.slice A n d,.bool r.2])/\r.1.length=n/\n<=d/\Sl w' (av w') A n (r.1.map D.i)/\Ext w w'
def lnV:Value->Nat
 | .slice _ n _=>n
 | _=>0
set_option maxRecDepth 1000000 in
set_option maxHeartbeats 3200000 in
theorem search_any(u:ax)(w:World)(p:UV)(steps most:Int)(hU:x0 u)(hAq7:AiC)(hu:p.Ok w u)(ht:TabU w.heap.size w) :
  Calls Tryz.prog 14 #[.agg (p.val u),.int .i64 steps,.int .i64 most] w (SearchRes w (searchP u steps most)):=by
 have H:=ae (And.intro hU (And.intro hAq7 (And.intro hu ht)));clear hU hAq7 hu ht;dsimp only[UV.val];go_enter Tryz.func14,Tryz.ntmps14;go_upto_region 1 with(fail);generalize hWq7:World.alloc _ _=W;have hEq7:Ext w W:=by rw[<-hWq7];exact(Fr.refl _ _).alloc _
 have hBq7:an W w.heap.size 30 #[.slice p.GA p.gn p.gc,.slice p.MA p.mn p.mc,.slice p.PA p.pn p.pc,.int .i64 u.main]:=by rw[<-hWq7];exact an.new _ _ _
 have HW:=ae (And.intro hEq7 hBq7);obtain⟨x0q7,x0f,x0l⟩:=hBq7.two;clear hWq7 hEq7 hBq7;go_wp2_with(fail);refine(explore_any u W p steps most H.o.1 H.o.2.1 (H.o.2.2.1.on HW.o.1) (λw' hbq7=>(H.o.2.2.2.on HW.o.1.ext) w' (hbq7.mono HW.o.1.size))).mono ?_;rintro e w1q7 ⟨c,A,n,d,i,R,L,hc,hcu,hcw,rfl,hX,hRq7⟩
 have hsp:searchP u steps most=match (oQ u steps most).1.find? (deadK u) with
  | some k=>(k.2,true)
  | none=>([],false):=rfl
 generalize oQ u steps most=r at *;obtain⟨out,all⟩:=r;have hX:XAt c w1q7 A n d i R L out:=hX;have hlen:=hX.len;have hn5:n<=500:=by have:=hX.le;have:=hc.most;omega
 have hWE:Ext W w1q7:=by rw[<-hcw];exact hX.ext
 have hw1:w.heap.size<w1q7.heap.size:=Nat.lt_of_lt_of_le x0l hWE.size;have hgl:=hX.blk.lt;have HX:=ae (And.intro hX (And.intro hlen (And.intro (HW.o.1.trans hWE) (And.intro (HW.o.2.aj hWE) (And.intro (show ∀k∈out,aV u R k.1 by rw[<-hcu];exact hX.st) (And.intro hsp (H.o.2.2.1.on (HW.o.1.trans hWE))))))));obtain⟨g0q7,g0f,g0l⟩:=hX.blk.two;clear hX hlen hWE x0q7 x0f x0l hc hcw hcu hsp;go_wp2_with(fail);go_loopw [25] (λivq7 wr=>∃(k:Nat),ivq7=.int .i64 k/\k<=n/\Ext w1q7 wr/\(out.drop k).find? (deadK u)=out.find? (deadK u)) (λivq7 _=>n - (intOf ivq7).toNat)
 case atStart=>exact⟨0,rfl,ad,Fr.refl _ _,rfl⟩
 case round=>
  clear g0q7 g0f g0l;obtain⟨k,rfl,hkq7,hEr,hfd⟩:=hrel;have hsr:=hEr.size;by_cases hlt:k<n
  .have hlt1:(k:Int)<(n:Int):=ad;obtain⟨b,⟨S',par,pkq7⟩,⟨S,P⟩,q,rfl,hbq7,hbV,hLj,hoj,hsk,hqq7,hcl⟩:=HX.o.1.at_ hlt;obtain rfl:S=S':=hsk;have c0:wr.cell? ⟨b,k*6,none⟩=_:=(hEr.cell hbq7 λh=>h).trans (hcl 0 _ rfl);have c1:=(hEr.cell hbq7 λh=>h).trans (hcl 1 _ rfl);have c2:=(hEr.cell hbq7 λh=>h).trans (hcl 2 _ rfl);have c3:=(hEr.cell hbq7 λh=>h).trans (hcl 3 _ rfl);have c4q7:=(hEr.cell hbq7 λh=>h).trans (hcl 4 _ rfl);have c5q7:=(hEr.cell hbq7 λh=>h).trans (hcl 5 _ rfl);have hbr:=Nat.lt_of_lt_of_le hbq7 hsr;rw[dropL hoj] at hfd;have HK:=ae (And.intro hqq7 (And.intro hoj (And.intro hEr (And.intro hLj hfd))));clear hLj hoj hqq7 hcl hEr hfd;go_upto_region 5 with(fail);generalize hZq7:World.alloc _ _=Z;have hEZ:Ext wr Z:=by rw[<-hZq7];exact(Fr.refl _ _).alloc _
   have hBZ:an Z wr.heap.size 71 (fdC q (S,par,pkq7)).toArray:=by rw[<-hZq7];exact an.new _ _ _
   have hZs:=hBZ.lt;have hE1Z:=HK.o.2.2.1.trans hEZ;have hqZ:q.Ok Z S:=(HK.o.1.al λb hbq7=>hE1Z.block b hbq7.2.1 λh=>h).ok λb hbq7=>by have:=hbq7.2.1;omega
   have hBx:=HX.o.2.2.2.1.aj hE1Z;have hd:=mdead u S R Z p q ⟨H.o.1,HX.o.2.2.2.2.1 _ (List.mem_of_getElem? HK.o.2.1),ad,HX.o.2.2.2.2.2.2.on hE1Z,hqZ⟩;obtain⟨z0q7,z0f,z0l⟩:=hBZ.two;obtain⟨x0q7,x0f,x0l⟩:=hBx.two;have hdk:deadK u (S,P)=decide (0<(ni (da u S)).length):=rfl;generalize ni (da u S)=DLq7 at *;have HZ:=ae (And.intro hE1Z (And.intro hBZ (And.intro hd hdk)));generalize hgz:wr.heap.size=gzq7 at *;clear hZq7 hEZ hBZ hE1Z hqZ hBx hd hdk c0 c1 c2 c3 c4q7 c5q7 hgz;go_wp2_with(fail);refine HZ.o.2.2.1.mono ?_;rintro e w4q7 ⟨DAq7,dcq7,rfl,hdc,hdl,hE4⟩;have H4:=ae hE4;have hs4:=hE4.size;clear hdl hE4 hdc x0q7 x0f x0l z0q7 z0f z0l;by_cases hzq7:DLq7.length=0
   .have hbq7:((DLq7.length:Int) == 0)=true:=by rw[beq_iff_eq];omega
    have hfd2:(out.drop (k+1)).find? (deadK u)=out.find? (deadK u):=by
     have h1q7:=HK.o.2.2.2.2;rw[List.find?_cons,HZ.o.2.2.2,decide_eq_false ad] at h1q7;exact h1q7
    have HF:=ae hfd2;clear hfd2 hzq7;go_wp2_with(fail);go_roundw
    case rel=>exact⟨k+1,by go_num,ad,HZ.o.1.trans H4.o,HF.o⟩
    case measure=>simp[intOf];omega
   .have hbq7:((DLq7.length:Int) == 0)=false:=by rw[beq_eq_false_iff_ne];omega
    have hfd2:out.find? (deadK u)=some (S,P):=by
     rw[<-HK.o.2.2.2.2,List.find?_cons,HZ.o.2.2.2,decide_eq_true ad]
    have HF:=ae hfd2;clear hfd2 hzq7;go_wp2_with(fail);have hb1:Fr (λb=>b=gzq7) w4q7 w4q7:=Fr.refl _ _;have hbz:=HZ.o.2.1.aj H4.o;have ho0:w4q7.ownsRow w4q7.heap.size 3 1 (.slice none 0 0) 0 (([]:List Int).map dK):=World.ownsRow_nil _ _ _ _;have HS:=ae (And.intro hb1 (And.intro hbz ho0));clear hb1 hbz ho0;go_loopw [12] (λovq7 wr=>∃(j:Nat) (S':ah) (P' ysq7:List Int) (par' pk':Int) (q':SV) (D:Option Addr) (dc':Nat),ovq7=.slice D ysq7.length dc'/\j<n/\ysq7.length+j<=k/\L[j]?=some (S',par',pk')/\out[j]?=some (S',P')/\P'++ysq7.reverse=P/\Fr (λb=>b=gzq7) w4q7 wr/\an wr gzq7 71 (fdC q' (S',par',pk')).toArray/\wr.ownsRow w4q7.heap.size 3 1 (.slice D ysq7.length dc') ysq7.length (ysq7.map dK)) (λovq7 _=>n - lnV ovq7)
    case atStart=>exact⟨k,S,P,[],par,pkq7,q,none,0,rfl,hlt,by simp,HK.o.2.2.2.1,HK.o.2.1,by simp,HS.o.1,HS.o.2.1,HS.o.2.2⟩
    case round=>
     obtain⟨j,S2,P2,ysq7,par2,pk2,q2q7,D,dc',rfl,hjn,hyk,hLj,hoj,hPq7,hF,hBg,hoq7⟩:=hrel;obtain⟨P3,ho3,hcase⟩:=HX.o.1.fd.at_ j S2 par2 pk2 hLj;rw[hoj] at ho3;injection ho3 with ho3;injection ho3 with _ ho3;subst ho3;obtain⟨z0q7,z0f,z0l⟩:=hBg.two;have hsr:=hF.size;rcases hcase with⟨rfl,rfl⟩|⟨j1q7,know,rfl,hj1,hon,rfl⟩
     .have HK2:=ae (And.intro hPq7 (And.intro hF hoq7));clear hPq7 hF hoq7 hBg hLj hoj;go_wp2_with(fail);refine(reverse_any D ysq7.length dc' w4q7.heap.size ysq7 wr rfl ad HK2.o.2.2).mono ?_;rintro e w6q7 ⟨rfl,ho6,hF6⟩;have HK6:=ae (And.intro ho6 hF6);clear ho6 hF6 z0q7 z0f z0l;go_wp2_with(fail)
      go_ret2
      have hsr:searchP u steps most=(P,true):=by rw[HX.o.2.2.2.2.2.1,HF.o]
      rw[hsr];have h1q7:=HK6.o.1;rw[show ysq7.reverse=P from HK2.o.1] at h1q7;have hPl:P.length=ysq7.length:=by rw[<-HK2.o.1];simp
      refine⟨D,ysq7.length,dc',rfl,hPl,?_,?_,?_⟩
      .obtain⟨_,_,he,h2q7,_⟩:=bI h1q7;injection he with _ _ he;omega
      .rw[<-FV] at h1q7;exact(jb h1q7 (λ_ _=>rfl) hPl).ints λb hbq7=>hbq7
      .have h4q7:=H4.o.size;have h1z:=HZ.o.1.size;refine HX.o.2.2.1.trans (Fr.low (M:=λb=>b=gzq7\/(Value.slice D ysq7.length dc').ownBlock=some b) (Fr.trans (Fr.trans ((HZ.o.1.trans H4.o).mono λ_ h=>h.elim) (HK2.o.2.1.mono λ_ h=>.inl h)) (HK6.o.2.mono λ_ h=>.inr h)) λb hbq7=>?_);rcases hbq7 with rfl|hbq7
       .omega
       .have:=(HK2.o.2.2.lt b hbq7).1;omega
     .obtain⟨b1q7,⟨S3',par3,pk3⟩,⟨S3,P3⟩,q3q7,hA1,hb1,hbV1,hL1,ho1,hsk1,hq1,hcl1⟩:=HX.o.1.at_ (j:=j1q7) ad;injection hA1 with hA1;injection hA1 with hA1;subst hA1;obtain rfl:S3=S3':=hsk1;rw[hon] at ho1;injection ho1 with ho1;subst ho1;have hj1n:j1q7<n:=ad;have hgz4:gzq7<w4q7.heap.size:=ad;have h1z:=(HZ.o.1.trans H4.o).size;have HK2:=ae (And.intro hPq7 (And.intro hF (And.intro hBg (And.intro hoq7 (And.intro hL1 (And.intro hon (λ(V:World) (hV:Fr (λb=>b=gzq7) w4q7 V) m u hu=>((hV.cell (Nat.lt_of_lt_of_le hb1 h1z) (show ¬b=gzq7 by omega)).trans ((HZ.o.1.trans H4.o).cell hb1 λh=>h)).trans (hcl1 m u hu))))))));clear hPq7 hF hBg hoq7 hLj hoj hL1 hon hq1 hcl1;go_upto_region 9 with(at_builtin;refine cI _ dT rfl (.tmp 38) (.tmp 41) rfl w4q7.heap.size _ _ _ #[.int .i64 pk2] rfl HK2.o.2.2.2.1 rfl rfl (by simp[Value.oneCell']) ad ad ad ?_;intro v3q7 w5q7 hown3 hg3 hat3;have H5:=ae (And.intro hown3 hg3);clear hown3 hg3 hat3);obtain⟨D3q7,c5q7,hvq7,_,_⟩:=bI H5.o.1;subst hvq7;have f5:Fr (λb=>b=gzq7) w4q7 w5q7:=HK2.o.2.1.grown H5.o.2 λg hgq7=>.inr (HK2.o.2.2.2.1.lt g hgq7).1;have hB5:=HK2.o.2.2.1.grown H5.o.2 (λhe=>by have:=(HK2.o.2.2.2.1.lt gzq7 he.symm).1;omega);have hX5:=((HX.o.1.blk.aj (HZ.o.1.trans H4.o))).on f5 (show ¬c.g=gzq7 by omega);have e0:w5q7.cell? ⟨b,j1q7*6,none⟩=_:=HK2.o.2.2.2.2.2.2 w5q7 f5 0 _ rfl;have e1:=HK2.o.2.2.2.2.2.2 w5q7 f5 1 _ rfl;have e2:=HK2.o.2.2.2.2.2.2 w5q7 f5 2 _ rfl;have e3:=HK2.o.2.2.2.2.2.2 w5q7 f5 3 _ rfl
      have e4q7:=HK2.o.2.2.2.2.2.2 w5q7 f5 4 _ rfl;have e5q7:=HK2.o.2.2.2.2.2.2 w5q7 f5 5 _ rfl;have s5q7:=f5.size;have hb5:b<w5q7.heap.size:=ad;have H6:=ae (And.intro f5 hB5);clear z0q7 z0f z0l;obtain⟨z0q7,z0f,z0l⟩:=hB5.two;obtain⟨g0q7,g0f,g0l⟩:=hX5.two;clear f5 hB5 hX5;refine eB (λ_=>False) [(0,3),(1,3),(2,3),(3,0),(4,3),(5,0),(6,3),(7,0),(8,2)] ?_
      iterate 3 refine pf ?_
      refine ph ?_;refine pf ?_;refine ph ?_;refine pf ?_;refine ph ?_;refine au rfl (λK hK=>?_);go_simp;refine dW hK ?_;clear hK K;refine aB ?_;generalize hX:World.setCell _ _ _=X;obtain⟨hBX,hFX⟩:=jR 0 (fdC q3q7 (S3,par3,pk3)) H6.o.2 hX;have HX6:=ae (And.intro hBX hFX);clear hX hBX hFX e0 e1 e2 e3 e4q7 e5q7 z0q7 z0f z0l g0q7 g0f g0l;go_wp2_with(fail);go_roundw
      case rel=>
       refine⟨j1q7,S3,P3,ysq7++[pk2],par3,pk3,q3q7,D3q7,c5q7,by simp,hj1n,by simp;omega,HK2.o.2.2.2.2.1,HK2.o.2.2.2.2.2.1,?_,(Fr.trans H6.o.1 HX6.o.2).drew,HX6.o.1.drew,?_⟩
       .rw[<-HK2.o.1];simp
       .have h1q7:=H5.o.1;have h2q7:X.ownsRow w4q7.heap.size 3 1 (.slice D3q7 (ysq7.length+1) c5q7) (ysq7.length+1) (ysq7.map dK++[.int .i64 pk2]):=BF h1q7 λb hBq7 hbq7=>HX6.o.2.block b hbq7 (show ¬b=gzq7 by omega);have h3q7:X.drew.ownsRow w4q7.heap.size 3 1 (.slice D3q7 (ysq7.length+1) c5q7) (ysq7.length+1) (ysq7.map dK++[.int .i64 pk2]):=h2q7;simpa using h3q7
      case measure=>simp[lnV];omega
  .obtain rfl:k=n:=ad;rw[List.drop_of_length_le (aC HX.o.2.1.2)] at hfd;have HK:=ae (And.intro hEr hfd);clear hEr hfd;go_wp2_with(fail)
   go_ret2
   have hsr:searchP u steps most=([],false):=by rw[HX.o.2.2.2.2.2.1,<-HK.o.2];rfl
   rw[hsr];exact⟨none,0,0,rfl,rfl,Nat.le_refl _,Sl.bH _,HX.o.2.2.1.trans HK.o.1⟩
end
end Go.Proofs.YtajlmkkidmjgoaaGreatDoor
