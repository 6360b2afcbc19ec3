/- Part 20 of the proof. No condition of its own. -/
import Derived.Test.YtflecliffjbleaaGreatS19
namespace Go.Proofs.YtflecliffjbleaaGreat
open Go.RowKit Go.Proofs.Tryz
set_option maxRecDepth 1000000
set_option maxHeartbeats 25600000
set_option linter.unusedVariables false
variable{t:Int}{fs:List an}{gn i ic l lc:Nat}{M P:Nat->Prop}{GA IA:Mk}{p:Prop}{e:VE}{Z:World}{f:an}{u:aw}{x:ay}
abbrev tN:Array Value:=#[.int .i64 0,.int .i64 0,.bool false,.int .i64 0,.int .i64 0,.string ⟨#[]⟩,.slice none 0 0,.bool false,.int .i64 0,.slice none 0 0,.slice none 0 0,.slice none 0 0]
structure SV.Is(q:SV)(w:World)(P:Nat->Prop)(s:ai):Prop where
 at_:l0 w P s q.GA q.gn q.TA q.tn q.HA q.hn
 gc:q.gn<=q.gc
 tc:q.tn<=q.tc
 hc:q.hn<=q.hc
def c8(P:Nat->Prop)(w:World)(s:ai)(b:Bool)(e:Ending)(ab:World):Prop:=∃q:SV,e=.returned (.tuple #[.agg (q.val s),.bool b])/\q.Is ab (λk=>P k\/(w.heap.size<=k/\k<ab.heap.size)) s/\Ext w ab
abbrev nQ:Nat->Prop:=λ_=>False
theorem SV.Is.ok{q:SV}{w:World}{s:ai}(h:q.Is w P s)(be:∀b,P b->b<w.heap.size):q.Ok w s:=⟨h.at_.mono be,h.gc,h.tc,h.hc⟩
theorem SV.Is.mono{q:SV}{w:World}{P cW:Nat->Prop}{s:ai}(h:q.Is w P s)(be:∀b,P b->cW b):q.Is w cW s:=⟨h.at_.mono be,h.gc,h.tc,h.hc⟩
theorem SV.Is.ak{q:SV}{w ab:World}{P:Nat->Prop}{s:ai}(h:q.Is w P s)(aj:∀b,P b->ab.heap[b]?=w.heap[b]?):q.Is ab P s:=⟨⟨h.at_.g.ak aj,h.at_.t.ak aj,h.at_.h.ak aj⟩,h.gc,h.tc,h.hc⟩
theorem rh.sv{w:World}{s:ai}{TA HA:Mk}{gc tn tc hn hc:Nat}{xs:List Value}{F1 F2 bI b9:List Nat}(h:rh w s GA gn gc TA tn tc HA hn hc xs F1 F2 bI b9)(hl:∀b∈F1++(F2++(bI++b9)),P b):(⟨GA,gn,gc,TA,tn,tc,HA,hn,hc⟩:SV).Is w P s:=
 ⟨h.at_ hl,h.g.cap,h.t.cap,h.h.cap⟩
theorem te(s:ai)(q:SV)(w:World)(h:q.Ok w s)(b7:Small s):Calls prog 50 #[.agg (q.val s)] w λe ab=>∃ar:SV,e=.returned (.agg (ar.val s))/\ar.Is ab (fresh w ab) s/\Ext w ab:=by
 refine(fT s q.GA q.TA q.HA q.gn q.gc q.tn q.tc q.hn q.hc w h.at_ b7).mono ?_;rintro e ab ⟨GA,gc,TA,tc,HA,hc,xs,F1,F2,bI,b9,rfl,cm,bm,aF⟩;exact⟨⟨GA,q.gn,gc,TA,q.tn,tc,HA,q.hn,hc⟩,rfl,cm.sv bm,aF⟩
namespace Cw
theorem eZ(h:p:=by
 have bM:=ah hs ht;clear hs ht;dsimp only[UV.val,SV.val];go_enter func39,ntmps39;go_upto_region 1 with(fail);generalize bd:World.alloc _ _=W;have aF:=l3 bd;have be:=iC bd;have cB:=ks bd;have ag:=ah aF cB;obtain⟨a8,am,aJ⟩:=be.two;clear bd aF be cB;go_wp2_with(fail);refine(zf s bE TA HA bK bw tn tc hn hc t W (bM.1.on ag.1).at_ bM.2).mono ?_;rintro e aP ⟨rfl,aL⟩;have f:=ag.2.aj aL;have bu:=ah (ag.1.trans aL) f;clear a8 am aJ aL;obtain⟨bp,aM,aV⟩:=f.two;clear f;go_wp2_with(fail);generalize hX:World.setCell _ _ _=Z;obtain⟨bt,ba,bf⟩:=bs (w:=w) [.int .i64 0,.int .i64 0,.bool false,.int .i64 0,.int .i64 0,.string ⟨#[]⟩,.slice none 0 0,.bool false,.int .i64 0,.slice none 0 0,.slice none 0 0,.slice none 0 0] (by rfl) bu.2 bu.1 ad hX;have bh:=ae ba;clear hX ba bf bp aM aV;obtain⟨bp,aM,aV⟩:=bt.two;refine Mf (v:=.tuple #[.agg tN,.bool false]) (by simp[results,Tryz.results39,go_sem,bp]) rfl ?_;exact⟨rfl,bh.o⟩
 ):p:=h
end Cw
open Cw in
theorem kS(u:aw)(s:ai)(t:Int)(w:World)(p:UV)(q:SV)(hs:q.Ok w s)(ht:dO s t=none) :
  Calls prog 39 #[.agg (p.val u),.agg (q.val s),.int .i64 t] w λe ab=>e=.returned (.tuple #[.agg tN,.bool false])/\Ext w ab:=by
 exact eY
namespace Cx
theorem eZ(h:p:=by
 have bM:=ah hs ht;clear hs ht;dsimp only[UV.val,SV.val];go_enter func26,ntmps26;go_upto_region 1 with(fail);generalize bd:World.alloc _ _=W;have aF:=l3 bd;have be:=iC bd;have cB:=ks bd;have ag:=ah aF cB;obtain⟨a8,am,aJ⟩:=be.two;clear bd aF be cB;go_wp2_with(fail);refine(zs s bE TA HA bK bw tn tc hn hc t W (bM.1.on ag.1).at_ bM.2).mono ?_;rintro e aP ⟨rfl,aL⟩;have f:=ag.2.aj aL;have bu:=ah (ag.1.trans aL) f;clear a8 am aJ aL f;go_upto_region 2 with(fail);generalize hV:World.alloc _ _=V;have bo:=aZ hV;have m:=bu.2.aj bo;have cc:=ah (bu.1.trans bo) m;obtain⟨bp,aM,aV⟩:=m.two;clear hV bo m;go_wp2_with(fail);generalize hX:World.setCell _ _ _=Z;obtain⟨bt,ba,bf⟩:=bs (w:=w) [.int .i64 0,.int .i64 0,.bool false,.int .i64 0,.int .i64 0,.string ⟨#[]⟩,.slice none 0 0,.bool false,.int .i64 0,.slice none 0 0,.slice none 0 0,.slice none 0 0] (by rfl) cc.2 cc.1 ad hX;have bh:=ae ba;clear hX ba bf bp aM aV;obtain⟨bp,aM,aV⟩:=bt.two;refine Mf (v:=.tuple #[.agg tN,.bool false]) (by simp[results,Tryz.results26,go_sem,bp]) rfl ?_;exact⟨rfl,bh.o⟩
 ):p:=h
end Cx
open Cx in
theorem k0(u:aw)(s:ai)(t:Int)(w:World)(p:UV)(q:SV)(hs:q.Ok w s)(ht:dO s t=none) :
  Calls prog 26 #[.agg (p.val u),.agg (q.val s),.int .i64 t] w λe ab=>e=.returned (.tuple #[.agg tN,.bool false])/\Ext w ab:=by
 exact eY
namespace Cy
theorem nw(h:p:=by
 have ag:=aA aF aS cB;obtain⟨a8,am,aJ⟩:=aS.two;clear bd aF aS cB;go_wp2_with(fail);refine(te s ⟨bE,bK,bw,TA,tn,tc,HA,hn,hc⟩ W (bM.1.on ag.1) bM.2).mono ?_;rintro e aP ⟨⟨bc,cx,L,a4,m,S,bl,bJ,aX⟩,rfl,b8,aL⟩;have cn:=ag.2.1.aj aL;have H1:=bA b8 (ag.1.trans aL) cn (ag.2.2.aj aL);clear a8 am aJ b8 aL;obtain⟨a8,am,aJ⟩:=cn.two;clear cn;go_upto_region 3 with(fail);generalize hX:World.setCell _ _ _=X;obtain⟨bV,J⟩:=kO 3 [.int .i64 z] (kO 0 [.slice bc cx L,.slice a4 m S,.slice bl bJ aX,.int .i64 s.fault] H1.2.2.1 rfl).1 hX;have ay:Fr (λb=>b=w.heap.size) aP X:=(kO 0 [.slice bc cx L,.slice a4 m S,.slice bl bJ aX,.int .i64 s.fault] H1.2.2.1 rfl).2.trans J;have bU:ao X w.heap.size 30 #[.slice bc cx L,.slice a4 m S,.slice bl bJ aX,.int .i64 z]:=by simpa[jm] using bV
 have b3:=H1.2.2.2.on ay ad;have bz:Ext w X:=Fr.low (M:=λb=>b=w.heap.size) (Fr.trans (Fr.mono H1.2.1 λ_ h=>h.elim) ay) λb O=>ad;have aR:=aA bz b3 ay;clear hX bV J ay a8 am aJ bz;obtain⟨a8,am,aJ⟩:=bU.two;obtain⟨bp,aM,aV⟩:=b3.two;clear bU b3;go_wp2_with(fail);generalize hX:World.setCell _ _ _=Z;obtain⟨bt,ba,bf⟩:=bs (w:=w) [.slice bc cx L,.slice a4 m S,.slice bl bJ aX,.int .i64 z] (by rfl) aR.2.1 aR.1 ad hX;have bh:=ah ba bf;clear hX ba bf bp aM aV a8 am aJ;obtain⟨bp,aM,aV⟩:=bt.two;refine Mf (v:=.tuple #[.agg #[.slice bc cx L,.slice a4 m S,.slice bl bJ aX,.int .i64 z],.bool true]) (by simp[results,Tryz.results89,go_sem,bp]) rfl ?_;have aG:=aR.2.2.size;have cT:=bh.2.size;have P:w.heap.size+1<W.heap.size:=ag.2.2.lt;have al:(⟨bc,cx,L,a4,m,S,bl,bJ,aX⟩:SV).Is Z (fresh W aP) {s with fault:=z}:=SV.Is.ak (w:=aP) ⟨⟨H1.1.at_.g,H1.1.at_.t,H1.1.at_.h⟩,H1.1.gc,H1.1.tc,H1.1.hc⟩ λb O=>(bh.2.block b (aB O.2) (aB O.1)).trans (aR.2.2.block b O.2 (aB O.1));exact⟨⟨bc,cx,L,a4,m,S,bl,bJ,aX⟩,rfl,al.mono λb O=>.inr ⟨by have:=O.1;omega,by have:=O.2;omega⟩,bh.1⟩
 ):p:=h
end Cy
open Cy in
theorem lB(s:ai)(q:SV)(z:Int)(w:World)(h:q.Ok w s)(b7:Small s):Calls prog 89 #[.agg (q.val s),.int .i64 z] w (c8 nQ w {s with fault:=z} true):=by
 obtain⟨bE,bK,bw,TA,tn,tc,HA,hn,hc⟩:=q;have bM:=ah h b7;clear h b7;dsimp only[SV.val];go_enter func89,ntmps89;exact nv
namespace Cz
theorem nw(h:p:=by
 have ag:=aA aF aS cB;obtain⟨a8,am,aJ⟩:=aS.two;clear bd aF aS cB;go_upto_region 2 with(fail);generalize hX:World.setCell _ _ _=X;obtain⟨bV,J⟩:=kO 3 [.int .i64 z] ag.2.1 hX;have bU:ao X w.heap.size 30 #[.slice bE bK bw,.slice TA tn tc,.slice HA hn hc,.int .i64 z]:=by simpa[jm] using bV
 have b3:=ag.2.2.on J ad;have bz:Ext w X:=Fr.low (M:=λb=>b=w.heap.size) (Fr.trans (Fr.mono ag.1 λ_ h=>h.elim) J) λb O=>ad;have aR:=ah bz b3;clear hX bV J a8 am aJ bz;obtain⟨a8,am,aJ⟩:=bU.two;obtain⟨bp,aM,aV⟩:=b3.two;clear bU b3;go_wp2_with(fail);generalize hX:World.setCell _ _ _=Z;obtain⟨bt,ba,bf⟩:=bs (w:=w) [.slice bE bK bw,.slice TA tn tc,.slice HA hn hc,.int .i64 z] (by rfl) aR.2 aR.1 ad hX;have bh:=ae ba;clear hX ba bf bp aM aV a8 am aJ;obtain⟨bp,aM,aV⟩:=bt.two;refine Mf (v:=.tuple #[.agg #[.slice bE bK bw,.slice TA tn tc,.slice HA hn hc,.int .i64 z],.bool true]) (by simp[results,Tryz.results44,go_sem,bp]) rfl ?_;have bn:=bM.1.ak (ab:=Z) λb O=>bh.block b (bM.2 b O) λh=>h;exact⟨⟨bE,bK,bw,TA,tn,tc,HA,hn,hc⟩,rfl,SV.Is.mono ⟨⟨bn.at_.g,bn.at_.t,bn.at_.h⟩,bn.gc,bn.tc,bn.hc⟩ λb O=>.inl O,bh.o⟩
 ):p:=h
end Cz
open Cz in
theorem py(P:Nat->Prop)(s:ai)(q:SV)(z:Int)(w:World)(h:q.Is w P s)(be:∀b,P b->b<w.heap.size):Calls prog 44 #[.agg (q.val s),.int .i64 z] w (c8 P w {s with fault:=z} true):=by
 obtain⟨bE,bK,bw,TA,tn,tc,HA,hn,hc⟩:=q;have bM:=ah h be;clear h be;dsimp only[SV.val];go_enter func44,ntmps44;exact nv
theorem Jy(g c:Value)(O hn hc ch n fc:Nat)(t:Int)(w:World)(h0:0<=t)(ap:t<hn)(dr:O<w.heap.size)(cb:w.cell? ⟨O,t.toNat,none⟩=some (.slice (some ⟨ch,0,none⟩) (n+1) fc))(aj:n<=1000000) :
  Calls prog 54 #[.agg #[g,c,.slice (some ⟨O,0,none⟩) hn hc,.int .i64 0],.int .i64 t] w λe ab=>e=.returned (.pointer (some ⟨ch,n*4,none⟩))/\Ext w ab:=by
 have:=yg g c O 0 hn hc ch 0 n fc t w h0 ap dr (by rw[LW];exact cb) aj
 rwa [LW] at this
theorem ej{s:ai}{bg:an}(h:s.threads[t.toNat]?=some (fs++[f])):bq s t bg={s with threads:=s.threads.set t.toNat (fs++[bg])}:=by
 unfold bq;rw[lC h,kH]
theorem sX{w:World}{g ah j:Nat}{v:Value}(h:g≠ah\/i≠j):(w.setCell ⟨g,i,none⟩ v).cell? ⟨ah,j,none⟩=w.cell? ⟨ah,j,none⟩:=by
 apply World.cell?_setCell_other
 intro he;injection he with ac ax;omega
structure dC(B:Nat)(w:World)(s:ai)(N:Nat)(q:SV)(xs:List Value)(F1 F2 bI b9:List Nat):Prop where
 st:rh w s q.GA q.gn q.gc q.TA q.tn q.tc q.HA q.hn q.hc xs F1 F2 bI b9
 o:ao w N 30 (q.val s)
 ne:N∉F1++(F2++(bI++b9))
 lo:∀b∈F1++(F2++(bI++b9)),B<=b/\b<w.heap.size
 go:B<=N
section
variable {B:Nat} {w ab:World} {s:ai} {N:Nat} {q:SV} {xs:List Value} {F1 F2 bI b9:List Nat}
theorem dC.aj(h:dC B w s N q xs F1 F2 bI b9)(he:Ext w ab):dC B ab s N q xs F1 F2 bI b9:=
 ⟨h.st.ak λb O=>he.block b (h.lo b O).2 λh=>h,h.o.aj he,h.ne,λb O=>⟨(h.lo b O).1,LC (h.lo b O).2 he.size⟩,h.go⟩
theorem dC.cS(h:dC B w s N q xs F1 F2 bI b9)(he:Fr M w ab)(hM:∀b,M b->b<B):dC B ab s N q xs F1 F2 bI b9:=
 ⟨h.st.ak λb O=>he.block b (h.lo b O).2 λhm=>by have:=hM b hm;have:=(h.lo b O).1;omega,h.o.on he (λhm=>by have:=hM N hm;have:=h.go;omega),h.ne,λb O=>⟨(h.lo b O).1,LC (h.lo b O).2 he.size⟩,h.go⟩
theorem dC.store(h:dC B w s N q xs F1 F2 bI b9){aq:ai}{p:Addr}{u:Value}(hp:p.block∈F1++(F2++(bI++b9)))(cm:rh (w.setCell p u) aq q.GA q.gn q.gc q.TA q.tn q.tc q.HA q.hn q.hc xs F1 F2 bI b9)(J:aq.fault=s.fault):dC B (w.setCell p u) aq N q xs F1 F2 bI b9:=by
 refine⟨cm,?_,h.ne,λb O=>⟨(h.lo b O).1,by simpa[World.setCell] using (h.lo b O).2⟩,h.go⟩;have:=h.o.J1 (p:=p) (λhe=>h.ne (he▸hp)) u;unfold SV.val at this ⊢
 rwa [J]
theorem dC.ok(h:dC B w s N q xs F1 F2 bI b9):q.Is w (λb=>B<=b/\b<w.heap.size) s:=(show (⟨q.GA,q.gn,q.gc,q.TA,q.tn,q.tc,q.HA,q.hn,q.hc⟩:SV).Is w _ s from h.st.sv h.lo)
structure sD(B:Nat)(w:World)(s:ai)(N:Nat)(q:SV)(xs:List Value)(F1 F2 bI b9:List Nat)(t:Int)(fs:List an)(f:an)(ch:Nat)(IA:Mk)(i ic:Nat)(bB:Mk)(l lc:Nat):Prop where
 oz:dC B w s N q xs F1 F2 bI b9
 lt:ch<w.heap.size
 c0:w.cell? ⟨ch,fs.length*4,none⟩=some (.int .i64 f.proc)
 c1:w.cell? ⟨ch,fs.length*4+1,none⟩=some (.int .i64 f.pc)
 c2:w.cell? ⟨ch,fs.length*4+2,none⟩=some (.slice IA i ic)
 c3:w.cell? ⟨ch,fs.length*4+3,none⟩=some (.slice bB l lc)
 fz:∀j,w.frozen? ⟨ch,j,none⟩=false
 ne:ch≠N
 ge:B<=ch
 hd:∃O fc,q.HA=some ⟨O,0,none⟩/\t.toNat<q.hn/\O<w.heap.size/\O≠ch/\O≠N/\B<=O/\(∀j,w.frozen? ⟨O,j,none⟩=false)/\w.cell? ⟨O,t.toNat,none⟩=some (.slice (some ⟨ch,0,none⟩) (fs.length+1) fc)/\fs.length+1<=fc
 pc:∀v,dC B (w.setCell ⟨ch,fs.length*4+1,none⟩ (.int .i64 v)) {s with threads:=s.threads.set t.toNat (fs++[{f with pc:=v}])} N q xs F1 F2 bI b9
 ints:∀j v,j<i->∃T,IA=some ⟨T,0,none⟩/\T<w.heap.size/\w.frozen? ⟨T,j,none⟩=false/\(∃u,w.cell? ⟨T,j,none⟩=some u)/\T≠N/\B<=T/\dC B (w.setCell ⟨T,j,none⟩ (.int .i64 v)) {s with threads:=s.threads.set t.toNat (fs++[{f with ints:=f.ints.set j v}])} N q xs F1 F2 bI b9
theorem dC.HG(bn:dC B w s N q xs F1 F2 bI b9)(bv:s.threads[t.toNat]?=some (fs++[f])){O ch fc:Nat}{bB:Mk}(mW:q.HA=some ⟨O,0,none⟩)
  (hc:w.cell? ⟨O,t.toNat,none⟩=some (.slice (some ⟨ch,0,none⟩) (fs.length+1) fc)) (c2:w.cell? ⟨ch,fs.length*4+2,none⟩=some (.slice IA i ic)) (c3:w.cell? ⟨ch,fs.length*4+3,none⟩=some (.slice bB l lc)) :
  sD B w s N q xs F1 F2 bI b9 t fs f ch IA i ic bB l lc:=by
 have aD:∀b,b∈b9->b∈F1++(F2++(bI++b9)):=λb O=>by simp[O]
 have c5:∀b,b∈bI->b∈F1++(F2++(bI++b9)):=λb O=>by simp[O]
 obtain⟨a4,bo,cY,E,o,cR,ba,aM,b8,d,m,cF,k,aS,a,r,aa,aX,g,d0,d1,d2,d3,h,e,n,c,_⟩:=bn.st.top bv;have e1:=mW.symm.trans d;injection e1 with e1;injection e1 with e1 _;subst e1;have e2:=hc.symm.trans aX;injection e2 with e2;injection e2 with e2 _ e3;injection e2 with e2;injection e2 with e2 _;subst e2 e3;have bH:=c2.symm.trans d2;injection bH with bH;injection bH with bH cq cu;subst bH cq cu;have e7:=c3.symm.trans d3;injection e7 with e7;injection e7 with e7 e8 e9;subst e7 e8 e9;refine⟨bn,k,d0,d1,d2,d3,e,λhe=>bn.ne (he▸aD _ a),(bn.lo _ (aD _ a)).1,⟨O,fc,d,m,cF,?_,λhe=>bn.ne (he▸c5 _ aS),(bn.lo _ (c5 _ aS)).1,h,aX,g⟩,λv=>bn.store (aD _ a) (n v) rfl,λj v bi=>?_⟩
 .intro he;subst he;have nd:=bn.st.nd;have n1:=(List.nodup_append.1 nd).2.1;have n2:=(List.nodup_append.1 n1).2.1;exact(List.nodup_append.1 n2).2.2 O aS O a rfl
 .obtain⟨T,dj,cE,dE,W,aL,cm⟩:=c j v bi;exact⟨T,dj,cE,W,aL,λhe=>bn.ne (he▸aD _ dE),(bn.lo _ (aD _ dE)).1,bn.store (aD _ dE) cm rfl⟩
theorem dC.top(h:dC B w s N q xs F1 F2 bI b9){t:Int}{fs:List an}{f:an}(bv:s.threads[t.toNat]?=some (fs++[f]))(h0:0<=t)(bN:s.fault=0)(aj:fs.length<=1000000) :
  ∃ch IA i ic bB l lc,i=f.ints.length/\l=f.ax.length/\
   (∀ab,Ext w ab->Calls prog 54 #[.agg (q.val s),.int .i64 t] ab λe j=>e=.returned (.pointer (some ⟨ch,fs.length*4,none⟩))/\Ext ab j)/\
   ∀ab,Ext w ab->sD B ab s N q xs F1 F2 bI b9 t fs f ch IA i ic bB l lc:=by
 obtain⟨O,ch,fc,IA,i,ic,bB,l,lc,mW,a7,T,cr,aD,bu,al,hl,hc,G,c0,c1,c2,c3,U,a,c9,hints,_⟩:=h.st.top bv;refine⟨ch,IA,i,ic,bB,l,lc,al,hl,λab he=>?_,λab he=>?_⟩
 .have:=Jy (.slice q.GA q.gn q.gc) (.slice q.TA q.tn q.tc) O q.hn q.hc ch fs.length fc t ab h0 ad (LC T he.size) ((he.cell T λh=>h).trans hc) aj;unfold SV.val;rw[mW,bN];exact this
 .exact(h.aj he).HG bv mW ((he.cell T λh=>h).trans hc) ((he.cell cr λh=>h).trans c2) ((he.cell cr λh=>h).trans c3)
theorem sD.JO{ch:Nat}{bB:Mk}(h:sD B w s N q xs F1 F2 bI b9 t fs f ch IA i ic bB l lc)(bv:s.threads[t.toNat]?=some (fs++[f]))(v:Int):
  sD B (w.setCell ⟨ch,fs.length*4+1,none⟩ (.int .i64 v)) {s with threads:=s.threads.set t.toNat (fs++[{f with pc:=v}])} N q xs F1 F2 bI b9 t fs {f with pc:=v} ch IA i ic bB l lc:=by
 obtain⟨O,fc,mW,_,T,bl,_,_,_,hc,_⟩:=h.hd;have ap:=(List.getElem?_eq_some_iff.1 bv).1;exact(h.pc v).HG (by simp[ap]) mW ((sX (.inl (Ne.symm bl))).trans hc) ((sX (.inr ad)).trans h.c2) ((sX (.inr ad)).trans h.c3)
theorem dC.du(h:dC B w s N q xs F1 F2 bI b9){j:Nat}(bi:j<q.gn):∃bj,q.GA=some ⟨bj,0,none⟩/\bj<w.heap.size/\w.frozen? ⟨bj,j,none⟩=false/\(∃u,w.cell? ⟨bj,j,none⟩=some u)/\bj≠N/\B<=bj/\
  ∀v,dC B (w.setCell ⟨bj,j,none⟩ (.int .i64 v)) {s with globals:=s.globals.set j v} N q xs F1 F2 bI b9:=by
 obtain⟨bj,hG,hl,J,hc,hm,cm⟩:=h.st.du bi;have c6:bj∈F1++(F2++(bI++b9)):=by simp[hm]
 exact⟨bj,hG,hl,J,hc,λhe=>h.ne (he▸c6),(h.lo _ c6).1,λv=>h.store c6 (cm v) rfl⟩
end
structure jq(u:aw)(s:ai)(t:Int)(f:an)(cp:cM)(x:ay)(N:Nat):Prop where
 hU:yH u
 hS:aT u N s
 sm:Small s
 ht:dO s t=some f
 hF:ca u f
 hp:u.procs[f.proc.toNat]?=some cp
 hx:cp.code[f.pc.toNat]?=some x
 ok:∃len:Nat,cp.code.length=len+1/\ib (br u) cp.locals cp.ax len x
 nx:x.op≠8->f.pc+1<cp.code.length
 pc:0<=f.pc/\f.pc<=201
 il:x.ints.length<=200
 kl:x.places.length<=200
theorem jq.of{s:ai}{N:Nat}(hU:yH u)(hS:aT u N s)(hN:N<=100000)(ht:dO s t=some f):∃cp x,jq u s t f cp x N/\dz u s t=some x:=by
 obtain⟨hF,_,_⟩:=hS.top ht;obtain⟨cp,x,hp,hx,ac,ax,a1,aU,cy,bQ,C,cI,bf⟩:=hU.Jo hF;have hc:=bf.code;obtain⟨c,cN,cf,_⟩:=hc;have hl:cp.code.length=c.length+1:=by rw[cN];simp
 exact⟨cp,x,⟨hU,hS,hS.small hU.ok hN,ht,hF,hp,hx,cy,cI,⟨aU,ad⟩,bQ,C⟩,uA ht hp hx⟩
theorem jq.FX{s:ai}{cp:cM}{N:Nat}(h:jq u s t f cp x N)(he:gw (br u) cp.locals e){w:World}{c0 c1 c2 c3:Value}
  (aY:Sl w (av w) GA gn (s.globals.map .i)) (al:Sl w (av w) IA i (f.ints.map .i)) (a9:(bk e).rep w (av w) [c0,c1,c2,c3]):lZ w GA IA gn i s.globals f.ints e [c0,c1,c2,c3]/\oh s.globals f.ints e:=by
 obtain⟨bn,a,_⟩:=x6 h.hS h.hF h.hp he;have ac:=aY.1;have ax:=al.1;rw[LG] at ac ax;exact⟨⟨aY.ints,al.ints,by rw[<-ac,<-ax];exact bn,kI e _ a9⟩,a⟩
structure KL(u:aw)(s:ai)(t:Int)(f:an)(x:ay)(r:Int×Int):Prop where
 bad:r.2≠0->b1 u s t f x=({s with fault:=r.2},true)
 bz:r.2=0->x.op=6->r.1=0->b1 u s t f x=(bq s t {f with pc:=x.target},true)
 bn:r.2=0->x.op=6->r.1≠0->b1 u s t f x=(bq s t (next f),true)
 gl:r.2=0->x.op=1->x.du=true->b1 u s t f x=({bq s t (next f) with globals:=s.globals.set x.target.toNat r.1},true)
 lo:r.2=0->x.op=1->x.du=false->b1 u s t f x=(bq s t {next f with ints:=f.ints.set x.target.toNat r.1},true)
theorem KB{s:ai}(he:x.expr=some e)(co:x.op=1\/x.op=6):KL u s t f x (ev s.globals f.ints e):=by
 have h0:b1 u s t f x=(if (ev s.globals f.ints e).2≠0 then ({s with fault:=(ev s.globals f.ints e).2},true)
  else if x.op=6 then (bq s t (if (ev s.globals f.ints e).1=0 then {f with pc:=x.target} else next f),true)
  else if x.du then ({bq s t (next f) with globals:=s.globals.set x.target.toNat (ev s.globals f.ints e).1},true)
  else (bq s t {next f with ints:=f.ints.set x.target.toNat (ev s.globals f.ints e).1},true)):=by
  unfold b1;rw[if_pos co,he];rfl
 generalize ev s.globals f.ints e=r at *;refine⟨λh=>?_,λh bQ aG=>?_,λh bQ aG=>?_,λh ac aY=>?_,λh ac aY=>?_⟩
 .rw[h0,if_pos h]
 .rw[h0,if_neg ad,if_pos bQ,if_pos aG]
 .rw[h0,if_neg ad,if_pos bQ,if_neg aG]
 .rw[h0,if_neg ad,if_neg ad,if_pos aY]
 .rw[h0,if_neg ad,if_neg ad,if_neg (by simp[aY])]
theorem jq.th{s:ai}{cp:cM}{N:Nat}(h:jq u s t f cp x N):s.fault=0/\0<=t/\t<s.threads.length/\∃fs,s.threads[t.toNat]?=some (fs++[f])/\fs.length<=1000000:=by
 obtain⟨h0,ac,fs,bv⟩:=jU h.ht;have:=(List.getElem?_eq_some_iff.1 bv).1;exact⟨h0,ac,ad,fs,bv,by have:=(h.sm.f _ (LF bv)).1;simp at this;omega⟩
theorem g4{w W:World}{B:Nat}{s aq:ai}{N:Nat}{q:SV}{xs:List Value}{F1 F2 bI b9:List Nat}(h:dC B W s N q xs F1 F2 bI b9)(J:Fr M W Z)(hM:∀b,M b->b<B)(aS:w.heap.size<=B)(aF:Ext w Z)(hs:s=aq):c8 nQ w aq true (.returned (.tuple #[.agg (q.val aq),.bool true])) Z:=by
 subst hs;exact⟨q,rfl,(h.cS J hM).ok.mono λb O=>.inr ⟨ad,O.2⟩,aF⟩
theorem eB{w aW b4:World}{aq:ai}{b:Bool}{q:SV}(h:q.Is b4 (λk=>nQ k\/(aW.heap.size<=k/\k<b4.heap.size)) aq)(J:Fr M b4 Z)(hM:∀b,M b->b<aW.heap.size)(aS:w.heap.size<=aW.heap.size)(aF:Ext w Z):c8 nQ w aq b (.returned (.tuple #[.agg (q.val aq),.bool b])) Z:=
 ⟨q,rfl,(h.ak λk aj=>J.block k (aj.resolve_left λh=>h).2 λhm=>by have:=hM k hm;have:=(aj.resolve_left λh=>h).1;omega).mono λk aj=>.inr ⟨by have:=(aj.resolve_left λh=>h).1;omega,by have:=(aj.resolve_left λh=>h).2;have:=J.size;omega⟩,aF⟩
namespace CA
theorem dd(h:p:=by
 go_upto_region 13 with(fail);generalize hX:World.setCell _ _ _=Y;have cg:dC aW.heap.size Y {s with threads:=(s.threads.set t.toNat (fs++[next f])).set t.toNat (fs++[{next f with ints:=(next f).ints.set x.target.toNat r}])} b4.heap.size ⟨bc,bK,L,a4,tn,S,bl,hn,aX⟩ xs F1 F2 bI b9:=hX▸I.o;have ar:=cJ hX;have b2:=cj;have bx:Ext w Y:=Fr.low (M:=λb=>b=T) (Fr.trans (Fr.mono (ag.1.trans aS.2.1) λ_ h=>h.elim) ar) λb O=>by have:=ag.1.size;omega
 have k:=aS.2.2.on ar (aB ag.2.2.2.1.lt);have bF:=aA cg k bx;clear e0 a6 aQ bp aM aV;obtain⟨e0,a6,aQ⟩:=cg.o.two;obtain⟨bp,aM,aV⟩:=k.two;clear hX cg ar bx k;go_wp2_with(fail);generalize hX:World.setCell _ _ _=Z;obtain⟨bt,ba,bf⟩:=bs (w:=w) [.slice bc bK L,.slice a4 tn S,.slice bl hn aX,.int .i64 s.fault] (by rfl) bF.2.1 bF.2.2 ad hX;have bh:=ah ba bf;clear hX ba bf bp aM aV e0 a6 aQ;obtain⟨bp,aM,aV⟩:=bt.two;refine Mf (v:=.tuple #[.agg #[.slice bc bK L,.slice a4 tn S,.slice bl hn aX,.int .i64 s.fault],.bool true]) (by simp[results,Tryz.results53,go_sem,bp]) rfl ?_;rw[bT.o];show c8 nQ w (bq s t {next f with ints:=f.ints.set x.target.toNat r}) true _ _
 exact g4 (aq:=bq s t {next f with ints:=f.ints.set x.target.toNat r}) (q:=⟨bc,bK,L,a4,tn,S,bl,hn,aX⟩) bF.1 bh.2.drew (λb O=>by have:=ag.2.2.2.1.lt;omega) (aB ag.1.size) bh.1.drew (by rw[ej bS.2.2.1,List.set_set];rfl)
 ):p:=h
theorem Bm(h:p:=by
 have cP:=KB (u:=u) (s:=s) (t:=t) (f:=f) hex co;have cW:bK=s.globals.length:=by have:=hs.at_.g.1;simpa using this.symm
 have cu:=h.hS.du;have c9:=h.pc;have c3:=h.nx;have aR:=cX h bD hex cb aT;have bS:=dI bN c4 bv cr cW cu;have bO:=ae cP;have dv:=bA c9 c3 hlen dt;have cc:=aA hs bG hT;clear bN bv cW cu hlen c9 c3 al hex bD cb aT cr cw dt c4 h cP hs bG hT;dsimp only[SV.val,IV.val];go_enter func53,ntmps53;go_upto_region 1 with(fail);generalize bd:World.alloc _ _=W;have aF:=l3 bd;have bU:=kr bd;have be:=iC bd;have cB:=ks bd;have ag:=dI aF bU be cB (cc.1.on aF) (cc.2.1.on aF);have Q:=ae (cc.2.2.on aF);obtain⟨a0,ak,af⟩:=bU.two;obtain⟨a8,am,aJ⟩:=be.two;clear bd aF bU be cB cc;refine eK (λ_=>False) [(0,3),(1,0),(2,3),(3,0),(4,0),(5,3),(6,1),(7,3),(8,3),(9,0),(10,2),(11,3),(12,3),(13,3),(14,3),(15,3)] ?_;refine pf ?_;refine ph ?_;refine pf ?_
 iterate 2 refine ph ?_
 refine pf ?_;refine aI rfl (λK hK=>?_);go_simp;refine(lD (Q.on (Fr.refl _ W).drew) _ _ _).mono ?_;rintro e aP ⟨rfl,aL⟩;have ab:=ae (Q.on (Fr.aF aL));have bu:=ae (Fr.aF aL);have cA:=ab.lf;have c2:=ab.c2;refine dP hK (aL) ?_;clear hK K;clear aL
 iterate 2 refine pf ?_
 refine K4 ?_;refine au rfl (λK hK=>?_);go_simp;have bX:(bk ex).rep aP (av aP) [.int .i64 eo,.int .i64 en,.string es,.slice EA em ec]:=by
  have:=(ag.2.2.2.2.2.on bu.o).expr;rw[aR.2.2.1] at this;exact this
 refine(pF ex aP bE IA bK i bw ic s.globals f.ints _ _ _ _ (aR.1.FX aR.2.1 (ag.2.2.2.2.1.on bu.o).at_.g ab.ints bX).1).mono ?_;rintro e aW ⟨rfl,bg⟩;have a7:=ae (bu.trans (Fr.of bg));generalize ev s.globals f.ints ex=R at *;obtain⟨r,z⟩:=R;clear bX bg a0 ak af a8 am aJ c2 cA;obtain⟨a0,ak,af⟩:=(ag.2.1.aj a7.o).two;have bP:=a7.size;refine dU hK ?_;clear hK K
 iterate 5 refine pf ?_
 refine aC ?_;by_cases aG:z=0
 case neg=>
  have q5:(z != 0)=true:=by simpa using aG
  have bT:=ae (bO.bad aG);clear aG bO Q ab;go_wp2_with(fail);refine(lB s ⟨bE,bK,bw,TA,tn,tc,some ⟨O,bn,none⟩,hn,hc⟩ z aW (ag.2.2.2.2.1.on a7.o) aR.1.sm).mono ?_;rintro e b4 ⟨⟨bc,cx,L,a4,m,S,bl,bJ,aX⟩,rfl,b8,a3⟩;have a5:=ae b8;have cC:=(ag.2.2.2.1.aj a7.o).aj a3;have a2:=ah cC ((ag.1.trans a7.o).trans a3);obtain⟨bp,aM,aV⟩:=cC.two;clear b8 a3 cC a0 ak af;go_wp2_with(fail);generalize hX:World.setCell _ _ _=Z;obtain⟨bt,ba,bf⟩:=bs (w:=w) [.slice bc cx L,.slice a4 m S,.slice bl bJ aX,.int .i64 z] (by rfl) a2.1 a2.2 ad hX;have bh:=ah ba bf;clear hX ba bf bp aM aV;obtain⟨bp,aM,aV⟩:=bt.two;refine Mf (v:=.tuple #[.agg #[.slice bc cx L,.slice a4 m S,.slice bl bJ aX,.int .i64 z],.bool true]) (by simp[results,Tryz.results53,go_sem,bp]) rfl ?_;rw[bT.o];show c8 nQ w {s with fault:=z} true _ _
  exact eB (aq:={s with fault:=z}) (q:=⟨bc,cx,L,a4,m,S,bl,bJ,aX⟩) a5.o bh.2 (λb O=>by have:=ag.2.2.2.1.lt;omega) (aB ag.1.size) bh.1
 have q5:(z != 0)=false:=by simpa using aG
 have bb:=ae aG;clear aG Q ab;go_wp2_with(fail);refine(fT s bE TA (some ⟨O,bn,none⟩) bK bw tn tc hn hc aW (ag.2.2.2.2.1.on a7.o).at_ aR.1.sm).mono ?_;rintro e b4 ⟨bc,L,a4,S,bl,aX,xs,F1,F2,bI,b9,rfl,cm,bm,a3⟩;have bY:=aA cm bm a3;clear cm bm a3 a0 ak af;go_upto_region 5 with(fail);generalize hV:World.alloc _ _=V;have bo:=aZ hV;have b5:=aN hV;have dB:=bY.2.2.size;have hOut:dC aW.heap.size V s b4.heap.size ⟨bc,bK,L,a4,tn,S,bl,hn,aX⟩ xs F1 F2 bI b9:=
  ⟨bY.1.ak λb O=>bo.block b (bY.2.1 b O).2 λh=>h,b5,λO=>by have:=(bY.2.1 _ O).2;omega,λb O=>⟨(bY.2.1 b O).1,by have:=(bY.2.1 b O).2;have:=bo.size;omega⟩,dB⟩
 have U:Ext W V:=(a7.trans bY.2.2).trans bo;obtain⟨bW,c1,i2,cH,dh,c0,di,cf,ct,aE,J⟩:=hOut.top bS.2.2.1 bS.2.1 bS.1 bS.2.2.2.1;have cc:=cX hOut aE J U cf;obtain⟨e0,a6,aQ⟩:=hOut.o.two;clear hV bo b5 hOut U aE J cf ct;go_wp2_with(fail);refine(cc.2.1 V Mg).mono ?_;rintro e cI ⟨rfl,bL⟩;have P:=ae (cc.2.2.1 cI bL);have cd:=ae (cc.2.2.2.1.trans bL);clear e0 a6 aQ bL;have ce:=P.c1;have g2:=P.fz;have cN:=P.lt;have cZ:=dv.1;go_upto_region 8 with(fail);generalize hX:World.setCell _ _ _=X;have bH:sD aW.heap.size X {s with threads:=s.threads.set t.toNat (fs++[next f])} b4.heap.size ⟨bc,bK,L,a4,tn,S,bl,hn,aX⟩ xs F1 F2 bI b9 t fs (next f) bW c1 i2 cH dh c0 di:=hX▸P.JO bS.2.2.1 (f.pc+1);have b6:=cJ hX;have ds:=P.ge;have bz:Ext W X:=Fr.low (M:=λb=>b=bW) (Fr.trans (Fr.mono cd.o λ_ h=>h.elim) b6) λb O=>ad;have bC:=ag.2.2.1.aj bz;have b3:=ag.2.2.2.1.aj bz;have aS:=aA bH bz b3;obtain⟨a8,am,aJ⟩:=bC.two;obtain⟨e0,a6,aQ⟩:=bH.oz.o.two;obtain⟨bp,aM,aV⟩:=b3.two;have cv:=bH.c1;have bR:=bH.c2;have cR:=bH.fz;have H:=bH.lt;have b0:=bH.ne;clear hX bH b6 bz bC b3 ce g2 cN P;by_cases bQ:x.op=6
 .have dp:(x.op == 6)=true:=by simpa using bQ
  by_cases a9:r=0
  .have q7:(r == 0)=true:=by simpa using a9
   have bT:=ae (bO.bz bb.o bQ a9);clear bQ a9 bO;go_upto_region 13 with(fail);generalize hX:World.setCell _ _ _=Y;have cg:dC aW.heap.size Y {s with threads:=(s.threads.set t.toNat (fs++[next f])).set t.toNat (fs++[{next f with pc:=x.target}])} b4.heap.size ⟨bc,bK,L,a4,tn,S,bl,hn,aX⟩ xs F1 F2 bI b9:=hX▸aS.1.pc x.target;have ar:=cJ hX;have bx:Ext w Y:=Fr.low (M:=λb=>b=bW) (Fr.trans (Fr.mono (ag.1.trans aS.2.1) λ_ h=>h.elim) ar) λb O=>by have:=ag.1.size;omega
   have k:=aS.2.2.on ar (aB ag.2.2.2.1.lt);have bF:=aA cg k bx;clear e0 a6 aQ bp aM aV;obtain⟨e0,a6,aQ⟩:=cg.o.two;obtain⟨bp,aM,aV⟩:=k.two;clear hX cg ar bx k;go_wp2_with(fail);generalize hX:World.setCell _ _ _=Z;obtain⟨bt,ba,bf⟩:=bs (w:=w) [.slice bc bK L,.slice a4 tn S,.slice bl hn aX,.int .i64 s.fault] (by rfl) bF.2.1 bF.2.2 ad hX;have bh:=ah ba bf;clear hX ba bf bp aM aV e0 a6 aQ;obtain⟨bp,aM,aV⟩:=bt.two;refine Mf (v:=.tuple #[.agg #[.slice bc bK L,.slice a4 tn S,.slice bl hn aX,.int .i64 s.fault],.bool true]) (by simp[results,Tryz.results53,go_sem,bp]) rfl ?_;rw[bT.o];show c8 nQ w (bq s t {f with pc:=x.target}) true _ _
   exact g4 (aq:=bq s t {f with pc:=x.target}) (q:=⟨bc,bK,L,a4,tn,S,bl,hn,aX⟩) bF.1 bh.2 (λb O=>by have:=ag.2.2.2.1.lt;omega) (aB ag.1.size) bh.1 (by rw[ej bS.2.2.1,List.set_set];rfl)
  .have q7:(r == 0)=false:=by simpa using a9
   have bT:=ae (bO.bn bb.o bQ a9);clear bQ a9 bO;have bF:=aA aS.1.oz aS.2.2 (ag.1.trans aS.2.1);go_wp2_with(fail);generalize hX:World.setCell _ _ _=Z;obtain⟨bt,ba,bf⟩:=bs (w:=w) [.slice bc bK L,.slice a4 tn S,.slice bl hn aX,.int .i64 s.fault] (by rfl) bF.2.1 bF.2.2 ad hX;have bh:=ah ba bf;clear hX ba bf bp aM aV e0 a6 aQ;obtain⟨bp,aM,aV⟩:=bt.two;refine Mf (v:=.tuple #[.agg #[.slice bc bK L,.slice a4 tn S,.slice bl hn aX,.int .i64 s.fault],.bool true]) (by simp[results,Tryz.results53,go_sem,bp]) rfl ?_;rw[bT.o];show c8 nQ w (bq s t (next f)) true _ _
   exact g4 (aq:=bq s t (next f)) (q:=⟨bc,bK,L,a4,tn,S,bl,hn,aX⟩) bF.1 bh.2 (λb O=>by have:=ag.2.2.2.1.lt;omega) (aB ag.1.size) bh.1 (by rw[ej bS.2.2.1])
 .have ac:x.op=1:=ad;have dp:(x.op == 6)=false:=by simpa using bQ
  cases aY:x.du with
  | true=>
   have bT:=ae (bO.gl bb.o ac aY);rw[aY] at a8;have bZ:=aR.2.2.2.1 ac aY;have G:=bS.2.2.2.2.1;have bM:=bS.2.2.2.2.2;have cD:x.target<(bK:Int):=ad;have az:=dv.2.2.2;obtain⟨bj,y,c6,cY,⟨c5,aD⟩,cL,cj,aj⟩:=aS.1.oz.du (j:=x.target.toNat) (by show x.target.toNat<bK;omega);simp only at y;subst y;have I:=ae (aj r);clear bQ ac bO bZ G bM aj;go_upto_region 13 with(fail);generalize hX:World.setCell _ _ _=Y;have cg:dC aW.heap.size Y {s with threads:=s.threads.set t.toNat (fs++[next f]),globals:=s.globals.set x.target.toNat r} b4.heap.size ⟨some ⟨bj,0,none⟩,bK,L,a4,tn,S,bl,hn,aX⟩ xs F1 F2 bI b9:=hX▸I.o;have ar:=cJ hX;have cO:=cj;have bx:Ext w Y:=Fr.low (M:=λb=>b=bj) (Fr.trans (Fr.mono (ag.1.trans aS.2.1) λ_ h=>h.elim) ar) λb O=>by have:=ag.1.size;omega
   have k:=aS.2.2.on ar (aB ag.2.2.2.1.lt);have bF:=aA cg k bx;clear e0 a6 aQ bp aM aV;obtain⟨e0,a6,aQ⟩:=cg.o.two;obtain⟨bp,aM,aV⟩:=k.two;clear hX cg ar bx k;go_wp2_with(fail);generalize hX:World.setCell _ _ _=Z;obtain⟨bt,ba,bf⟩:=bs (w:=w) [.slice (some ⟨bj,0,none⟩) bK L,.slice a4 tn S,.slice bl hn aX,.int .i64 s.fault] (by rfl) bF.2.1 bF.2.2 ad hX;have bh:=ah ba bf;clear hX ba bf bp aM aV e0 a6 aQ;obtain⟨bp,aM,aV⟩:=bt.two;refine Mf (v:=.tuple #[.agg #[.slice (some ⟨bj,0,none⟩) bK L,.slice a4 tn S,.slice bl hn aX,.int .i64 s.fault],.bool true]) (by simp[results,Tryz.results53,go_sem,bp]) rfl ?_;rw[bT.o];show c8 nQ w ({bq s t (next f) with globals:=s.globals.set x.target.toNat r}) true _ _
   exact g4 (aq:={bq s t (next f) with globals:=s.globals.set x.target.toNat r}) (q:=⟨some ⟨bj,0,none⟩,bK,L,a4,tn,S,bl,hn,aX⟩) bF.1 bh.2 (λb O=>by have:=ag.2.2.2.1.lt;omega) (aB ag.1.size) bh.1 (by rw[ej bS.2.2.1])
  | false=>
   have bT:=ae (bO.lo bb.o ac aY);rw[aY] at a8;have ap:=aR.2.2.2.2 ac aY;have cf:=cc.2.2.2.2;have cD:x.target<(i2:Int):=ad;have az:=dv.2.2.2;obtain⟨T,dj,c6,cY,⟨c5,aD⟩,cL,cj,hints⟩:=aS.1.ints x.target.toNat r ad;subst dj;have I:=ae hints;clear bQ ac bO ap cf hints;go_upto_region 7 with(fail);exact BW
 ):p:=h
end CA
open CA in
theorem wM(u:aw)(s:ai)(t:Int)(f:an)(cp:cM)(x:ay)(N:Nat)(w:World)(q:SV)(v:IV)(h:jq u s t f cp x N)(co:x.op=1\/x.op=6)(hs:q.Ok w s)(bG:v.Ok w x) :
  Calls prog 53 #[.agg (q.val s),.int .i64 t,.agg (v.val x)] w (c8 nQ w (b1 u s t f x).1 (b1 u s t f x).2):=by
 obtain⟨bN,c4,cw,fs,bv,cr⟩:=h.th;obtain⟨bE,bK,bw,TA,tn,tc,HA,hn,hc⟩:=q;obtain⟨eo,en,es,EA,em,ec,QA,qm,qc,dk,j,df,KA,dg,kc⟩:=v;obtain⟨O,bn,ch,dc,n,fc,IA,i,ic,bB,l,lc,e,hT⟩:=hs.at_.top h.sm h.ht;simp only at e;subst e;exact Bl
end Go.Proofs.YtflecliffjbleaaGreat
