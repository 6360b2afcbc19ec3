/- Part 21 of the proof. No condition of its own. -/
import Derived.Test.YtnigabjngpnbiabGreatF20
namespace Go.Proofs.YtnigabjngpnbiabGreat
open Go.RowKit Go.Proofs.Tryz
set_option maxRecDepth 1000000
set_option maxHeartbeats 25600000
set_option linter.unusedVariables false
variable{t:Int}{fs:List ao}{gn i ic l lc:Nat}{M P:Nat->Prop}{GA IA:NH}{p:Prop}{e:VE}{Z:World}{x:aA}{f:ao}{u:aw}
abbrev uu:Array Value:=#[.int .i64 0,.int .i64 0,.bool false,.int .i64 0,.int .i64 0,.string ⟨#[]⟩,.slice none 0 0,.bool false,.int .i64 0,.slice none 0 0,.slice none 0 0,.slice none 0 0]
structure SV.Is(q:SV)(w:World)(P:Nat->Prop)(s:ai):Prop where
 at_:l7 w P s q.GA q.gn q.TA q.tn q.HA q.hn
 gc:q.gn<=q.gc
 tc:q.tn<=q.tc
 hc:q.hn<=q.hc
def dd(P:Nat->Prop)(w:World)(s:ai)(b:Bool)(e:Ending)(ab:World):Prop:=∃q:SV,e=.returned (.tuple #[.agg (q.val s),.bool b])/\q.Is ab (λk=>P k\/(w.heap.size<=k/\k<ab.heap.size)) s/\Ext w ab
abbrev nC:Nat->Prop:=λ_=>False
theorem SV.Is.ok{q:SV}{w:World}{s:ai}(h:q.Is w P s)(bh:∀b,P b->b<w.heap.size):q.Ok w s:=⟨h.at_.mono bh,h.gc,h.tc,h.hc⟩
theorem SV.Is.mono{q:SV}{w:World}{P cU:Nat->Prop}{s:ai}(h:q.Is w P s)(bh:∀b,P b->cU b):q.Is w cU s:=⟨h.at_.mono bh,h.gc,h.tc,h.hc⟩
theorem SV.Is.ak{q:SV}{w ab:World}{P:Nat->Prop}{s:ai}(h:q.Is w P s)(aj:∀b,P b->ab.heap[b]?=w.heap[b]?):q.Is ab P s:=⟨⟨h.at_.g.ak aj,h.at_.t.ak aj,h.at_.h.ak aj⟩,h.gc,h.tc,h.hc⟩
theorem rF.sv{w:World}{s:ai}{TA HA:NH}{gc tn tc hn hc:Nat}{xs:List Value}{F1 F2 bJ cb:List Nat}(h:rF w s GA gn gc TA tn tc HA hn hc xs F1 F2 bJ cb)(hl:∀b∈F1++(F2++(bJ++cb)),P b):(⟨GA,gn,gc,TA,tn,tc,HA,hn,hc⟩:SV).Is w P s:=
 ⟨h.at_ hl,h.g.cap,h.t.cap,h.h.cap⟩
theorem tM(s:ai)(q:SV)(w:World)(h:q.Ok w s)(aY:Small s):Calls prog 29 #[.agg (q.val s)] w λe ab=>∃z:SV,e=.returned (.agg (z.val s))/\z.Is ab (fresh w ab) s/\Ext w ab:=by
 refine(fV s q.GA q.TA q.HA q.gn q.gc q.tn q.tc q.hn q.hc w h.at_ aY).mono ?_;rintro e ab ⟨GA,gc,TA,tc,HA,hc,xs,F1,F2,bJ,cb,rfl,cf,bp,aF⟩;exact⟨⟨GA,q.gn,gc,TA,q.tn,tc,HA,q.hn,hc⟩,rfl,cf.sv bp,aF⟩
namespace DM
theorem fP(h:p:=by
 have bH:=ah hs ht;clear hs ht;dsimp only[UV.val,SV.val];go_enter func28,ntmps28;go_upto_region 1 with(fail);generalize be:World.alloc _ _=W;have aF:=l9 be;have bh:=iL be;have cx:=kC be;have al:=ah aF cx;obtain⟨bs,am,aK⟩:=bh.two;clear be aF bh cx;go_wp2_with(fail);refine(zV s bI TA HA bU bx tn tc hn hc t W (bH.1.on al.1).at_ bH.2).mono ?_;rintro e aO ⟨rfl,aM⟩;have f:=al.2.aj aM;have bw:=ah (al.1.trans aM) f;clear bs am aK aM;obtain⟨bq,a1,a5⟩:=f.two;clear f;go_wp2_with(fail);generalize hX:World.setCell _ _ _=Z;obtain⟨bm,bd,a4⟩:=a9 (w:=w) [(0:Int),(0:Int),false,(0:Int),(0:Int),NF,(),false,(0:Int),(),(),()] (by rfl) bw.2 bw.1 ad hX;have bj:=ae bd;clear hX bd a4 bq a1 a5;obtain⟨bq,a1,a5⟩:=bm.two;refine NB (v:=.tuple #[.agg uu,false]) (by simp[results,Tryz.results28,go_sem,bq]) rfl ?_;exact⟨rfl,bj.o⟩
 ):p:=h
end DM
open DM in
theorem vj(u:aw)(s:ai)(t:Int)(w:World)(p:UV)(q:SV)(hs:q.Ok w s)(ht:dF s t=none) :
  Calls prog 28 #[.agg (p.val u),.agg (q.val s),t] w λe ab=>e=.returned (.tuple #[.agg uu,false])/\Ext w ab:=by
 exact fO
namespace DN
theorem fP(h:p:=by
 have bH:=ah hs ht;clear hs ht;dsimp only[UV.val,SV.val];go_enter func7,ntmps7;go_upto_region 1 with(fail);generalize be:World.alloc _ _=W;have aF:=l9 be;have bh:=iL be;have cx:=kC be;have al:=ah aF cx;obtain⟨bs,am,aK⟩:=bh.two;clear be aF bh cx;go_wp2_with(fail);refine(z8 s bI TA HA bU bx tn tc hn hc t W (bH.1.on al.1).at_ bH.2).mono ?_;rintro e aO ⟨rfl,aM⟩;have f:=al.2.aj aM;have bw:=ah (al.1.trans aM) f;clear bs am aK aM f;go_upto_region 2 with(fail);generalize hV:World.alloc _ _=V;have aC:=aX hV;have z:=bw.2.aj aC;have cc:=ah (bw.1.trans aC) z;obtain⟨bq,a1,a5⟩:=z.two;clear hV aC z;go_wp2_with(fail);generalize hX:World.setCell _ _ _=Z;obtain⟨bm,bd,a4⟩:=a9 (w:=w) [(0:Int),(0:Int),false,(0:Int),(0:Int),NF,(),false,(0:Int),(),(),()] (by rfl) cc.2 cc.1 ad hX;have bj:=ae bd;clear hX bd a4 bq a1 a5;obtain⟨bq,a1,a5⟩:=bm.two;refine NB (v:=.tuple #[.agg uu,false]) (by simp[results,Tryz.results7,go_sem,bq]) rfl ?_;exact⟨rfl,bj.o⟩
 ):p:=h
end DN
open DN in
theorem vI(u:aw)(s:ai)(t:Int)(w:World)(p:UV)(q:SV)(hs:q.Ok w s)(ht:dF s t=none) :
  Calls prog 7 #[.agg (p.val u),.agg (q.val s),t] w λe ab=>e=.returned (.tuple #[.agg uu,false])/\Ext w ab:=by
 exact fO
namespace DO
theorem nG(h:p:=by
 have al:=ay aF aT cx;obtain⟨bs,am,aK⟩:=aT.two;clear be aF aT cx;go_wp2_with(fail);refine(tM s ⟨bI,bU,bx,TA,tn,tc,HA,hn,hc⟩ W (bH.1.on al.1) bH.2).mono ?_;rintro e aO ⟨⟨bc,ct,L,aZ,m,S,bl,bk,a7⟩,rfl,ca,aM⟩;have cg:=al.2.1.aj aM;have H1:=br ca (al.1.trans aM) cg (al.2.2.aj aM);clear bs am aK ca aM;obtain⟨bs,am,aK⟩:=cg.two;clear cg;go_upto_region 3 with(fail);generalize hX:World.setCell _ _ _=X;obtain⟨bG,J⟩:=kY 3 [z] (kY 0 [.slice bc ct L,.slice aZ m S,.slice bl bk a7,.int .i64 s.fault] H1.2.2.1 rfl).1 hX;have aA:Fr (λb=>b=w.heap.size) aO X:=(kY 0 [.slice bc ct L,.slice aZ m S,.slice bl bk a7,.int .i64 s.fault] H1.2.2.1 rfl).2.trans J;have b0:an X w 30 #[.slice bc ct L,.slice aZ m S,.slice bl bk a7,z]:=by simpa[jv] using bG
 have bL:=H1.2.2.2.on aA ad;have bt:Ext w X:=Fr.low (M:=λb=>b=w.heap.size) (Fr.trans (Fr.mono H1.2.1 λ_ h=>h.elim) aA) λb O=>ad;have aP:=ay bt bL aA;clear hX bG J aA bs am aK bt;obtain⟨bs,am,aK⟩:=b0.two;obtain⟨bq,a1,a5⟩:=bL.two;clear b0 bL;go_wp2_with(fail);generalize hX:World.setCell _ _ _=Z;obtain⟨bm,bd,a4⟩:=a9 (w:=w) [.slice bc ct L,.slice aZ m S,.slice bl bk a7,z] (by rfl) aP.2.1 aP.1 ad hX;have bj:=ah bd a4;clear hX bd a4 bq a1 a5 bs am aK;obtain⟨bq,a1,a5⟩:=bm.two;refine NB (v:=.tuple #[.agg #[.slice bc ct L,.slice aZ m S,.slice bl bk a7,z],true]) (by simp[results,Tryz.results61,go_sem,bq]) rfl ?_;have ag:=aP.2.2.size;have cY:=bj.2.size;have P:w+1<W.heap.size:=al.2.2.lt;have aN:(⟨bc,ct,L,aZ,m,S,bl,bk,a7⟩:SV).Is Z (fresh W aO) {s with fault:=z}:=SV.Is.ak (w:=aO) ⟨⟨H1.1.at_.g,H1.1.at_.t,H1.1.at_.h⟩,H1.1.gc,H1.1.tc,H1.1.hc⟩ λb O=>(bj.2.block b (ax O.2) (ax O.1)).trans (aP.2.2.block b O.2 (ax O.1));exact⟨⟨bc,ct,L,aZ,m,S,bl,bk,a7⟩,rfl,aN.mono λb O=>.inr ⟨by have:=O.1;omega,by have:=O.2;omega⟩,bj.1⟩
 ):p:=h
end DO
open DO in
theorem lF(s:ai)(q:SV)(z:Int)(w:World)(h:q.Ok w s)(aY:Small s):Calls prog 61 #[.agg (q.val s),z] w (dd nC w {s with fault:=z} true):=by
 obtain⟨bI,bU,bx,TA,tn,tc,HA,hn,hc⟩:=q;have bH:=ah h aY;clear h aY;dsimp only[SV.val];go_enter func61,ntmps61;exact nF
namespace DP
theorem nG(h:p:=by
 have al:=ay aF aT cx;obtain⟨bs,am,aK⟩:=aT.two;clear be aF aT cx;go_upto_region 2 with(fail);generalize hX:World.setCell _ _ _=X;obtain⟨bG,J⟩:=kY 3 [z] al.2.1 hX;have b0:an X w 30 #[.slice bI bU bx,.slice TA tn tc,.slice HA hn hc,z]:=by simpa[jv] using bG
 have bL:=al.2.2.on J ad;have bt:Ext w X:=Fr.low (M:=λb=>b=w.heap.size) (Fr.trans (Fr.mono al.1 λ_ h=>h.elim) J) λb O=>ad;have aP:=ah bt bL;clear hX bG J bs am aK bt;obtain⟨bs,am,aK⟩:=b0.two;obtain⟨bq,a1,a5⟩:=bL.two;clear b0 bL;go_wp2_with(fail);generalize hX:World.setCell _ _ _=Z;obtain⟨bm,bd,a4⟩:=a9 (w:=w) [.slice bI bU bx,.slice TA tn tc,.slice HA hn hc,z] (by rfl) aP.2 aP.1 ad hX;have bj:=ae bd;clear hX bd a4 bq a1 a5 bs am aK;obtain⟨bq,a1,a5⟩:=bm.two;refine NB (v:=.tuple #[.agg #[.slice bI bU bx,.slice TA tn tc,.slice HA hn hc,z],true]) (by simp[results,Tryz.results88,go_sem,bq]) rfl ?_;have bD:=bH.1.ak (ab:=Z) λb O=>bj.block b (bH.2 b O) λh=>h;exact⟨⟨bI,bU,bx,TA,tn,tc,HA,hn,hc⟩,rfl,SV.Is.mono ⟨⟨bD.at_.g,bD.at_.t,bD.at_.h⟩,bD.gc,bD.tc,bD.hc⟩ λb O=>.inl O,bj.o⟩
 ):p:=h
end DP
open DP in
theorem pK(P:Nat->Prop)(s:ai)(q:SV)(z:Int)(w:World)(h:q.Is w P s)(bh:∀b,P b->b<w.heap.size):Calls prog 88 #[.agg (q.val s),z] w (dd P w {s with fault:=z} true):=by
 obtain⟨bI,bU,bx,TA,tn,tc,HA,hn,hc⟩:=q;have bH:=ah h bh;clear h bh;dsimp only[SV.val];go_enter func88,ntmps88;exact nF
theorem KN(g c:Value)(O hn hc ch n fc:Nat)(t:Int)(w:World)(h0:0<=t)(ap:t<hn)(dr:O<w.heap.size)(bg:w.cell? ⟨O,t.toNat,none⟩=some (.slice (some ⟨ch,0,none⟩) (n+1) fc))(aj:n<=1000000) :
  Calls prog 33 #[.agg #[g,c,.slice (some ⟨O,0,none⟩) hn hc,(0:Int)],t] w λe ab=>e=.returned (.pointer (some ⟨ch,n*4,none⟩))/\Ext w ab:=by
 have:=yT g c O 0 hn hc ch 0 n fc t w h0 ap dr (by rw[Nm];exact bg) aj
 rwa [Nm] at this
theorem ek{s:ai}{b0:ao}(h:s.threads[t.toNat]?=some (fs++[f])):bu s t b0={s with threads:=s.threads.set t.toNat (fs++[b0])}:=by
 unfold bu;rw[lG h,kT]
theorem tt{w:World}{g ah j:Nat}{v:Value}(h:g≠ah\/i≠j):(w.setCell ⟨g,i,none⟩ v).cell? ⟨ah,j,none⟩=w.cell? ⟨ah,j,none⟩:=by
 apply World.cell?_setCell_other
 intro he;injection he with ac az;omega
structure dG(B:Nat)(w:World)(s:ai)(N:Nat)(q:SV)(xs:List Value)(F1 F2 bJ cb:List Nat):Prop where
 st:rF w s q.GA q.gn q.gc q.TA q.tn q.tc q.HA q.hn q.hc xs F1 F2 bJ cb
 o:an w N 30 (q.val s)
 ne:N∉F1++(F2++(bJ++cb))
 lo:∀b∈F1++(F2++(bJ++cb)),B<=b/\b<w.heap.size
 go:B<=N
section
variable {B:Nat} {w ab:World} {s:ai} {N:Nat} {q:SV} {xs:List Value} {F1 F2 bJ cb:List Nat}
theorem dG.aj(h:dG B w s N q xs F1 F2 bJ cb)(he:Ext w ab):dG B ab s N q xs F1 F2 bJ cb:=
 ⟨h.st.ak λb O=>he.block b (h.lo b O).2 λh=>h,h.o.aj he,h.ne,λb O=>⟨(h.lo b O).1,M0 (h.lo b O).2 he.size⟩,h.go⟩
theorem dG.cD(h:dG B w s N q xs F1 F2 bJ cb)(he:Fr M w ab)(hM:∀b,M b->b<B):dG B ab s N q xs F1 F2 bJ cb:=
 ⟨h.st.ak λb O=>he.block b (h.lo b O).2 λhm=>by have:=hM b hm;have:=(h.lo b O).1;omega,h.o.on he (λhm=>by have:=hM N hm;have:=h.go;omega),h.ne,λb O=>⟨(h.lo b O).1,M0 (h.lo b O).2 he.size⟩,h.go⟩
theorem dG.store(h:dG B w s N q xs F1 F2 bJ cb){aq:ai}{p:Addr}{u:Value}(hp:p.block∈F1++(F2++(bJ++cb)))(cf:rF (w.setCell p u) aq q.GA q.gn q.gc q.TA q.tn q.tc q.HA q.hn q.hc xs F1 F2 bJ cb)(J:aq.fault=s.fault):dG B (w.setCell p u) aq N q xs F1 F2 bJ cb:=by
 refine⟨cf,?_,h.ne,λb O=>⟨(h.lo b O).1,by simpa[World.setCell] using (h.lo b O).2⟩,h.go⟩;have:=h.o.Lj (p:=p) (λhe=>h.ne (he▸hp)) u;unfold SV.val at this ⊢
 rwa [J]
theorem dG.ok(h:dG B w s N q xs F1 F2 bJ cb):q.Is w (λb=>B<=b/\b<w.heap.size) s:=(show (⟨q.GA,q.gn,q.gc,q.TA,q.tn,q.tc,q.HA,q.hn,q.hc⟩:SV).Is w _ s from h.st.sv h.lo)
structure sZ(B:Nat)(w:World)(s:ai)(N:Nat)(q:SV)(xs:List Value)(F1 F2 bJ cb:List Nat)(t:Int)(fs:List ao)(f:ao)(ch:Nat)(IA:NH)(i ic:Nat)(bC:NH)(l lc:Nat):Prop where
 oz:dG B w s N q xs F1 F2 bJ cb
 lt:ch<w.heap.size
 c0:w.cell? ⟨ch,fs.length*4,none⟩=some (.int .i64 f.proc)
 c1:w.cell? ⟨ch,fs.length*4+1,none⟩=some (.int .i64 f.pc)
 c2:w.cell? ⟨ch,fs.length*4+2,none⟩=some (.slice IA i ic)
 c3:w.cell? ⟨ch,fs.length*4+3,none⟩=some (.slice bC l lc)
 fz:∀j,w.frozen? ⟨ch,j,none⟩=false
 ne:ch≠N
 ge:B<=ch
 hd:∃O fc,q.HA=some ⟨O,0,none⟩/\t.toNat<q.hn/\O<w.heap.size/\O≠ch/\O≠N/\B<=O/\(∀j,w.frozen? ⟨O,j,none⟩=false)/\w.cell? ⟨O,t.toNat,none⟩=some (.slice (some ⟨ch,0,none⟩) (fs.length+1) fc)/\fs.length+1<=fc
 pc:∀v,dG B (w.setCell ⟨ch,fs.length*4+1,none⟩ (.int .i64 v)) {s with threads:=s.threads.set t.toNat (fs++[{f with pc:=v}])} N q xs F1 F2 bJ cb
 ints:∀j v,j<i->∃T,IA=some ⟨T,0,none⟩/\T<w.heap.size/\w.frozen? ⟨T,j,none⟩=false/\(∃u,w.cell? ⟨T,j,none⟩=some u)/\T≠N/\B<=T/\dG B (w.setCell ⟨T,j,none⟩ (.int .i64 v)) {s with threads:=s.threads.set t.toNat (fs++[{f with ints:=f.ints.set j v}])} N q xs F1 F2 bJ cb
theorem dG.IS(bD:dG B w s N q xs F1 F2 bJ cb)(bv:s.threads[t.toNat]?=some (fs++[f])){O ch fc:Nat}{bC:NH}(m3:q.HA=some ⟨O,0,none⟩)
  (hc:w.cell? ⟨O,t.toNat,none⟩=some (.slice (some ⟨ch,0,none⟩) (fs.length+1) fc)) (c2:w.cell? ⟨ch,fs.length*4+2,none⟩=some (.slice IA i ic)) (c3:w.cell? ⟨ch,fs.length*4+3,none⟩=some (.slice bC l lc)) :
  sZ B w s N q xs F1 F2 bJ cb t fs f ch IA i ic bC l lc:=by
 have aD:∀b,b∈cb->b∈F1++(F2++(bJ++cb)):=λb O=>by simp[O]
 have bH:∀b,b∈bJ->b∈F1++(F2++(bJ++cb)):=λb O=>by simp[O]
 obtain⟨aZ,bh,a4,E,o,cm,bn,ag,cq,d,m,cI,k,aT,a,r,aB,a7,g,d0,d1,d2,d3,h,e,n,c,_⟩:=bD.st.top bv;have e1:=m3.symm.trans d;injection e1 with e1;injection e1 with e1 _;subst e1;have e2:=hc.symm.trans a7;injection e2 with e2;injection e2 with e2 _ e3;injection e2 with e2;injection e2 with e2 _;subst e2 e3;have b3:=c2.symm.trans d2;injection b3 with b3;injection b3 with b3 co bx;subst b3 co bx;have e7:=c3.symm.trans d3;injection e7 with e7;injection e7 with e7 e8 e9;subst e7 e8 e9;refine⟨bD,k,d0,d1,d2,d3,e,λhe=>bD.ne (he▸aD _ a),(bD.lo _ (aD _ a)).1,⟨O,fc,d,m,cI,?_,λhe=>bD.ne (he▸bH _ aT),(bD.lo _ (bH _ aT)).1,h,a7,g⟩,λv=>bD.store (aD _ a) (n v) rfl,λj v bi=>?_⟩
 .intro he;subst he;have nd:=bD.st.nd;have n1:=(List.nodup_append.1 nd).2.1;have n2:=(List.nodup_append.1 n1).2.1;exact(List.nodup_append.1 n2).2.2 O aT O a rfl
 .obtain⟨T,dm,cy,dI,R,aM,cf⟩:=c j v bi;exact⟨T,dm,cy,R,aM,λhe=>bD.ne (he▸aD _ dI),(bD.lo _ (aD _ dI)).1,bD.store (aD _ dI) cf rfl⟩
theorem dG.top(h:dG B w s N q xs F1 F2 bJ cb){t:Int}{fs:List ao}{f:ao}(bv:s.threads[t.toNat]?=some (fs++[f]))(h0:0<=t)(bP:s.fault=0)(aj:fs.length<=1000000) :
  ∃ch IA i ic bC l lc,i=f.ints.length/\l=f.az.length/\
   (∀ab,Ext w ab->Calls prog 33 #[.agg (q.val s),t] ab λe j=>e=.returned (.pointer (some ⟨ch,fs.length*4,none⟩))/\Ext ab j)/\
   ∀ab,Ext w ab->sZ B ab s N q xs F1 F2 bJ cb t fs f ch IA i ic bC l lc:=by
 obtain⟨O,ch,fc,IA,i,ic,bC,l,lc,m3,ce,T,cr,cd,bE,aN,hl,hc,G,c0,c1,c2,c3,bB,a,c7,hints,_⟩:=h.st.top bv;refine⟨ch,IA,i,ic,bC,l,lc,aN,hl,λab he=>?_,λab he=>?_⟩
 .have:=KN (.slice q.GA q.gn q.gc) (.slice q.TA q.tn q.tc) O q.hn q.hc ch fs.length fc t ab h0 ad (M0 T he.size) ((he.cell T λh=>h).trans hc) aj;unfold SV.val;rw[m3,bP];exact this
 .exact(h.aj he).IS bv m3 ((he.cell T λh=>h).trans hc) ((he.cell cr λh=>h).trans c2) ((he.cell cr λh=>h).trans c3)
theorem sZ.K5{ch:Nat}{bC:NH}(h:sZ B w s N q xs F1 F2 bJ cb t fs f ch IA i ic bC l lc)(bv:s.threads[t.toNat]?=some (fs++[f]))(v:Int):
  sZ B (w.setCell ⟨ch,fs.length*4+1,none⟩ v) {s with threads:=s.threads.set t.toNat (fs++[{f with pc:=v}])} N q xs F1 F2 bJ cb t fs {f with pc:=v} ch IA i ic bC l lc:=by
 obtain⟨O,fc,m3,_,T,bl,_,_,_,hc,_⟩:=h.hd;have ap:=(List.getElem?_eq_some_iff.1 bv).1;exact(h.pc v).IS (by simp[ap]) m3 ((tt (.inl (Ne.symm bl))).trans hc) ((tt (.inr ad)).trans h.c2) ((tt (.inr ad)).trans h.c3)
theorem dG.du(h:dG B w s N q xs F1 F2 bJ cb){j:Nat}(bi:j<q.gn):∃ck,q.GA=some ⟨ck,0,none⟩/\ck<w.heap.size/\w.frozen? ⟨ck,j,none⟩=false/\(∃u,w.cell? ⟨ck,j,none⟩=some u)/\ck≠N/\B<=ck/\
  ∀v,dG B (w.setCell ⟨ck,j,none⟩ (.int .i64 v)) {s with globals:=s.globals.set j v} N q xs F1 F2 bJ cb:=by
 obtain⟨ck,hG,hl,J,hc,hm,cf⟩:=h.st.du bi;have da:ck∈F1++(F2++(bJ++cb)):=by simp[hm]
 exact⟨ck,hG,hl,J,hc,λhe=>h.ne (he▸da),(h.lo _ da).1,λv=>h.store da (cf v) rfl⟩
end
structure jJ(u:aw)(s:ai)(t:Int)(f:ao)(cq:cR)(x:aA)(N:Nat):Prop where
 hU:yj u
 hS:aP u N s
 sm:Small s
 ht:dF s t=some f
 hF:cf u f
 hp:u.procs[f.proc.toNat]?=some cq
 hx:cq.code[f.pc.toNat]?=some x
 ok:∃len:Nat,cq.code.length=len+1/\ir (bg u) cq.locals cq.az len x
 nx:x.op≠8->f.pc+1<cq.code.length
 pc:0<=f.pc/\f.pc<=201
 il:x.ints.length<=200
 kl:x.places.length<=200
theorem jJ.of{s:ai}{N:Nat}(hU:yj u)(hS:aP u N s)(hN:N<=100000)(ht:dF s t=some f):∃cq x,jJ u s t f cq x N/\dC u s t=some x:=by
 obtain⟨hF,_,_⟩:=hS.top ht;obtain⟨cq,x,hp,hx,ac,az,aV,aU,cB,bG,C,cO,bu⟩:=hU.KD hF;have hc:=bu.code;obtain⟨c,c4,b8,_⟩:=hc;have hl:cq.code.length=c.length+1:=by rw[c4];simp
 exact⟨cq,x,⟨hU,hS,hS.small hU.ok hN,ht,hF,hp,hx,cB,cO,⟨aU,ad⟩,bG,C⟩,vf ht hp hx⟩
theorem jJ.G1{s:ai}{cq:cR}{N:Nat}(h:jJ u s t f cq x N)(he:fW (bg u) cq.locals e){w:World}{c0 c1 c2 c3:Value}
  (aR:Sl w (av w) GA gn (s.globals.map .i)) (aN:Sl w (av w) IA i (f.ints.map .i)) (ba:(bo e).rep w (av w) [c0,c1,c2,c3]):lR w GA IA gn i s.globals f.ints e [c0,c1,c2,c3]/\ow s.globals f.ints e:=by
 obtain⟨bD,a,_⟩:=yL h.hS h.hF h.hp he;have ac:=aR.1;have az:=aN.1;rw[M5] at ac az;exact⟨⟨aR.ints,aN.ints,by rw[<-ac,<-az];exact bD,jO e _ ba⟩,a⟩
structure L4(u:aw)(s:ai)(t:Int)(f:ao)(x:aA)(r:Int×Int):Prop where
 bad:r.2≠0->b5 u s t f x=({s with fault:=r.2},true)
 bz:r.2=0->x.op=6->r.1=0->b5 u s t f x=(bu s t {f with pc:=x.target},true)
 bn:r.2=0->x.op=6->r.1≠0->b5 u s t f x=(bu s t (next f),true)
 gl:r.2=0->x.op=1->x.du=true->b5 u s t f x=({bu s t (next f) with globals:=s.globals.set x.target.toNat r.1},true)
 lo:r.2=0->x.op=1->x.du=false->b5 u s t f x=(bu s t {next f with ints:=f.ints.set x.target.toNat r.1},true)
theorem LU{s:ai}(he:x.expr=some e)(cp:x.op=1\/x.op=6):L4 u s t f x (ev s.globals f.ints e):=by
 have h0:b5 u s t f x=(if (ev s.globals f.ints e).2≠0 then ({s with fault:=(ev s.globals f.ints e).2},true)
  else if x.op=6 then (bu s t (if (ev s.globals f.ints e).1=0 then {f with pc:=x.target} else next f),true)
  else if x.du then ({bu s t (next f) with globals:=s.globals.set x.target.toNat (ev s.globals f.ints e).1},true)
  else (bu s t {next f with ints:=f.ints.set x.target.toNat (ev s.globals f.ints e).1},true)):=by
  unfold b5;rw[if_pos cp,he];rfl
 generalize ev s.globals f.ints e=r at *;refine⟨λh=>?_,λh bG aI=>?_,λh bG aI=>?_,λh ac aR=>?_,λh ac aR=>?_⟩
 .rw[h0,if_pos h]
 .rw[h0,if_neg ad,if_pos bG,if_pos aI]
 .rw[h0,if_neg ad,if_pos bG,if_neg aI]
 .rw[h0,if_neg ad,if_neg ad,if_pos aR]
 .rw[h0,if_neg ad,if_neg ad,if_neg (by simp[aR])]
theorem jJ.th{s:ai}{cq:cR}{N:Nat}(h:jJ u s t f cq x N):s.fault=0/\0<=t/\t<s.threads.length/\∃fs,s.threads[t.toNat]?=some (fs++[f])/\fs.length<=1000000:=by
 obtain⟨h0,ac,fs,bv⟩:=j4 h.ht;have:=(List.getElem?_eq_some_iff.1 bv).1;exact⟨h0,ac,ad,fs,bv,by have:=(h.sm.f _ (M4 bv)).1;simp at this;omega⟩
theorem hh{w W:World}{B:Nat}{s aq:ai}{N:Nat}{q:SV}{xs:List Value}{F1 F2 bJ cb:List Nat}(h:dG B W s N q xs F1 F2 bJ cb)(J:Fr M W Z)(hM:∀b,M b->b<B)(aT:w.heap.size<=B)(aF:Ext w Z)(hs:s=aq):dd nC w aq true (.returned (.tuple #[.agg (q.val aq),true])) Z:=by
 subst hs;exact⟨q,rfl,(h.cD J hM).ok.mono λb O=>.inr ⟨ad,O.2⟩,aF⟩
theorem eD{w aW b6:World}{aq:ai}{b:Bool}{q:SV}(h:q.Is b6 (λk=>nC k\/(aW.heap.size<=k/\k<b6.heap.size)) aq)(J:Fr M b6 Z)(hM:∀b,M b->b<aW.heap.size)(aT:w.heap.size<=aW.heap.size)(aF:Ext w Z):dd nC w aq b (.returned (.tuple #[.agg (q.val aq),.bool b])) Z:=
 ⟨q,rfl,(h.ak λk aj=>J.block k (aj.resolve_left λh=>h).2 λhm=>by have:=hM k hm;have:=(aj.resolve_left λh=>h).1;omega).mono λk aj=>.inr ⟨by have:=(aj.resolve_left λh=>h).1;omega,by have:=(aj.resolve_left λh=>h).2;have:=J.size;omega⟩,aF⟩
namespace DQ
theorem c4(h:p:=by
 go_upto_region 13 with(fail);generalize hX:World.setCell _ _ _=Y;have bT:dG aW Y {s with threads:=(s.threads.set t.toNat (fs++[next f])).set t.toNat (fs++[{next f with ints:=(next f).ints.set x.target.toNat r}])} b6.heap.size ⟨bc,bU,L,aZ,tn,S,bl,hn,a7⟩ xs F1 F2 bJ cb:=hX▸I.o;have ar:=cP hX;have bV:=b3;have bA:Ext w Y:=Fr.low (M:=λb=>b=T) (Fr.trans (Fr.mono (al.1.trans aT.2.1) λ_ h=>h.elim) ar) λb O=>by have:=al.1.size;omega
 have k:=aT.2.2.on ar (ax al.2.2.2.1.lt);have bB:=ay bT k bA;clear e0 a6 ag bq a1 a5;obtain⟨e0,a6,ag⟩:=bT.o.two;obtain⟨bq,a1,a5⟩:=k.two;clear hX bT ar bA k;go_wp2_with(fail);generalize hX:World.setCell _ _ _=Z;obtain⟨bm,bd,a4⟩:=a9 (w:=w) [.slice bc bU L,.slice aZ tn S,.slice bl hn a7,.int .i64 s.fault] (by rfl) bB.2.1 bB.2.2 ad hX;have bj:=ah bd a4;clear hX bd a4 bq a1 a5 e0 a6 ag;obtain⟨bq,a1,a5⟩:=bm.two;refine NB (v:=.tuple #[.agg #[.slice bc bU L,.slice aZ tn S,.slice bl hn a7,.int .i64 s.fault],true]) (by simp[results,Tryz.results32,go_sem,bq]) rfl ?_;rw[bZ.o];show dd nC w (bu s t {next f with ints:=f.ints.set x.target.toNat r}) true _ _
 exact hh (aq:=bu s t {next f with ints:=f.ints.set x.target.toNat r}) (q:=⟨bc,bU,L,aZ,tn,S,bl,hn,a7⟩) bB.1 bj.2.drew (λb O=>by have:=al.2.2.2.1.lt;omega) (ax al.1.size) bj.1.drew (by rw[ek bW.2.2.1,List.set_set];rfl)
 ):p:=h
theorem B9(h:p:=by
 have dg:=LU (u:=u) (s:=s) (t:=t) (f:=f) hex cp;have cD:bU=s.globals.length:=by have:=hs.at_.g.1;simpa using this.symm
 have cv:=h.hS.du;have c7:=h.pc;have b8:=h.nx;have aP:=cQ h bi hex bF aY;have bW:=dH bP c5 bv cr cD cv;have b1:=ae dg;have dy:=br c7 b8 hlen dv;have cc:=ay hs bK hT;clear bP bv cD cv hlen c7 b8 aN hex bi bF aY cr cC dv c5 h dg hs bK hT;dsimp only[SV.val,IV.val];go_enter func32,ntmps32;go_upto_region 1 with(fail);generalize be:World.alloc _ _=W;have aF:=l9 be;have b0:=kB be;have bh:=iL be;have cx:=kC be;have al:=dH aF b0 bh cx (cc.1.on aF) (cc.2.1.on aF);have Q:=ae (cc.2.2.on aF);obtain⟨a0,ak,af⟩:=b0.two;obtain⟨bs,am,aK⟩:=bh.two;clear be aF b0 bh cx cc;refine eJ (λ_=>False) [(0,3),(1,0),(2,3),(3,0),(4,0),(5,3),(6,1),(7,3),(8,3),(9,0),(10,2),(11,3),(12,3),(13,3),(14,3),(15,3)] ?_;refine pf ?_;refine ph ?_;refine pf ?_
 iterate 2 refine ph ?_
 refine pf ?_;refine aE rfl (λK hK=>?_);go_simp;refine(lH (Q.on (Fr.refl _ W).drew) _ _ _).mono ?_;rintro e aO ⟨rfl,aM⟩;have ab:=ae (Q.on (Fr.aF aM));have bw:=ae (Fr.aF aM);have cH:=ab.lf;have c2:=ab.c2;refine dB hK (aM) ?_;clear hK K;clear aM
 iterate 2 refine pf ?_
 refine K6 ?_;refine au rfl (λK hK=>?_);go_simp;have bM:(bo ex).rep aO (av aO) [eo,en,es,.slice EA em ec]:=by
  have:=(al.2.2.2.2.2.on bw.o).expr;rw[aP.2.2.1] at this;exact this
 refine(pQ ex aO bI IA bU i bx ic s.globals f.ints _ _ _ _ (aP.1.G1 aP.2.1 (al.2.2.2.2.1.on bw.o).at_.g ab.ints bM).1).mono ?_;rintro e aW ⟨rfl,bn⟩;have a8:=ae (bw.trans (Fr.of bn));generalize ev s.globals f.ints ex=R at *;obtain⟨r,z⟩:=R;clear bM bn a0 ak af bs am aK c2 cH;obtain⟨a0,ak,af⟩:=(al.2.1.aj a8.o).two;have bO:=a8.size;refine dY hK ?_;clear hK K
 iterate 5 refine pf ?_
 refine aG ?_;by_cases aI:z=0
 case neg=>
  have q5:(z != 0)=true:=by simpa using aI
  have bZ:=ae (b1.bad aI);clear aI b1 Q ab;go_wp2_with(fail);refine(lF s ⟨bI,bU,bx,TA,tn,tc,some ⟨O,bD,none⟩,hn,hc⟩ z aW (al.2.2.2.2.1.on a8.o) aP.1.sm).mono ?_;rintro e b6 ⟨⟨bc,ct,L,aZ,m,S,bl,bk,a7⟩,rfl,ca,bf⟩;have a2:=ae ca;have cE:=(al.2.2.2.1.aj a8.o).aj bf;have a3:=ah cE ((al.1.trans a8.o).trans bf);obtain⟨bq,a1,a5⟩:=cE.two;clear ca bf cE a0 ak af;go_wp2_with(fail);generalize hX:World.setCell _ _ _=Z;obtain⟨bm,bd,a4⟩:=a9 (w:=w) [.slice bc ct L,.slice aZ m S,.slice bl bk a7,z] (by rfl) a3.1 a3.2 ad hX;have bj:=ah bd a4;clear hX bd a4 bq a1 a5;obtain⟨bq,a1,a5⟩:=bm.two;refine NB (v:=.tuple #[.agg #[.slice bc ct L,.slice aZ m S,.slice bl bk a7,z],true]) (by simp[results,Tryz.results32,go_sem,bq]) rfl ?_;rw[bZ.o];show dd nC w {s with fault:=z} true _ _
  exact eD (aq:={s with fault:=z}) (q:=⟨bc,ct,L,aZ,m,S,bl,bk,a7⟩) a2.o bj.2 (λb O=>by have:=al.2.2.2.1.lt;omega) (ax al.1.size) bj.1
 have q5:(z != 0)=false:=by simpa using aI
 have bb:=ae aI;clear aI Q ab;go_wp2_with(fail);refine(fV s bI TA (some ⟨O,bD,none⟩) bU bx tn tc hn hc aW (al.2.2.2.2.1.on a8.o).at_ aP.1.sm).mono ?_;rintro e b6 ⟨bc,L,aZ,S,bl,a7,xs,F1,F2,bJ,cb,rfl,cf,bp,bf⟩;have bN:=ay cf bp bf;clear cf bp bf a0 ak af;go_upto_region 5 with(fail);generalize hV:World.alloc _ _=V;have aC:=aX hV;have b4:=aL hV;have dE:=bN.2.2.size;have hOut:dG aW V s b6 ⟨bc,bU,L,aZ,tn,S,bl,hn,a7⟩ xs F1 F2 bJ cb:=
  ⟨bN.1.ak λb O=>aC.block b (bN.2.1 b O).2 λh=>h,b4,λO=>by have:=(bN.2.1 _ O).2;omega,λb O=>⟨(bN.2.1 b O).1,by have:=(bN.2.1 b O).2;have:=aC.size;omega⟩,dE⟩
 have U:Ext W V:=(a8.trans bN.2.2).trans aC;obtain⟨c0,c1,i2,cX,c9,dk,df,fn,cm,aH,J⟩:=hOut.top bW.2.2.1 bW.2.1 bW.1 bW.2.2.2.1;have cc:=cQ hOut aH J U fn;obtain⟨e0,a6,ag⟩:=hOut.o.two;clear hV aC b4 hOut U aH J fn cm;go_wp2_with(fail);refine(cc.2.1 V NC).mono ?_;rintro e cO ⟨rfl,cu⟩;have P:=ae (cc.2.2.1 cO cu);have bQ:=ae (cc.2.2.2.1.trans cu);clear e0 a6 ag cu;have cd:=P.c1;have g2:=P.fz;have cA:=P.lt;have c6:=dy.1;go_upto_region 8 with(fail);generalize hX:World.setCell _ _ _=X;have cG:sZ aW X {s with threads:=s.threads.set t.toNat (fs++[next f])} b6.heap.size ⟨bc,bU,L,aZ,tn,S,bl,hn,a7⟩ xs F1 F2 bJ cb t fs (next f) c0 c1 i2 cX c9 dk df:=hX▸P.K5 bW.2.2.1 (f.pc+1);have b9:=cP hX;have dI:=P.ge;have bt:Ext W X:=Fr.low (M:=λb=>b=c0) (Fr.trans (Fr.mono bQ.o λ_ h=>h.elim) b9) λb O=>ad;have bE:=al.2.2.1.aj bt;have bL:=al.2.2.2.1.aj bt;have aT:=ay cG bt bL;obtain⟨bs,am,aK⟩:=bE.two;obtain⟨e0,a6,ag⟩:=cG.oz.o.two;obtain⟨bq,a1,a5⟩:=bL.two;have cw:=cG.c1;have bR:=cG.c2;have cS:=cG.fz;have H:=cG.lt;have bS:=cG.ne;clear hX cG b9 bt bE bL cd g2 cA P;by_cases bG:x.op=6
 .have dj:(x.op == 6)=true:=by simpa using bG
  by_cases ba:r=0
  .have q7:(r == 0)=true:=by simpa using ba
   have bZ:=ae (b1.bz bb.o bG ba);clear bG ba b1;go_upto_region 13 with(fail);generalize hX:World.setCell _ _ _=Y;have bT:dG aW Y {s with threads:=(s.threads.set t.toNat (fs++[next f])).set t.toNat (fs++[{next f with pc:=x.target}])} b6.heap.size ⟨bc,bU,L,aZ,tn,S,bl,hn,a7⟩ xs F1 F2 bJ cb:=hX▸aT.1.pc x.target;have ar:=cP hX;have bA:Ext w Y:=Fr.low (M:=λb=>b=c0) (Fr.trans (Fr.mono (al.1.trans aT.2.1) λ_ h=>h.elim) ar) λb O=>by have:=al.1.size;omega
   have k:=aT.2.2.on ar (ax al.2.2.2.1.lt);have bB:=ay bT k bA;clear e0 a6 ag bq a1 a5;obtain⟨e0,a6,ag⟩:=bT.o.two;obtain⟨bq,a1,a5⟩:=k.two;clear hX bT ar bA k;go_wp2_with(fail);generalize hX:World.setCell _ _ _=Z;obtain⟨bm,bd,a4⟩:=a9 (w:=w) [.slice bc bU L,.slice aZ tn S,.slice bl hn a7,.int .i64 s.fault] (by rfl) bB.2.1 bB.2.2 ad hX;have bj:=ah bd a4;clear hX bd a4 bq a1 a5 e0 a6 ag;obtain⟨bq,a1,a5⟩:=bm.two;refine NB (v:=.tuple #[.agg #[.slice bc bU L,.slice aZ tn S,.slice bl hn a7,.int .i64 s.fault],true]) (by simp[results,Tryz.results32,go_sem,bq]) rfl ?_;rw[bZ.o];show dd nC w (bu s t {f with pc:=x.target}) true _ _
   exact hh (aq:=bu s t {f with pc:=x.target}) (q:=⟨bc,bU,L,aZ,tn,S,bl,hn,a7⟩) bB.1 bj.2 (λb O=>by have:=al.2.2.2.1.lt;omega) (ax al.1.size) bj.1 (by rw[ek bW.2.2.1,List.set_set];rfl)
  .have q7:(r == 0)=false:=by simpa using ba
   have bZ:=ae (b1.bn bb.o bG ba);clear bG ba b1;have bB:=ay aT.1.oz aT.2.2 (al.1.trans aT.2.1);go_wp2_with(fail);generalize hX:World.setCell _ _ _=Z;obtain⟨bm,bd,a4⟩:=a9 (w:=w) [.slice bc bU L,.slice aZ tn S,.slice bl hn a7,.int .i64 s.fault] (by rfl) bB.2.1 bB.2.2 ad hX;have bj:=ah bd a4;clear hX bd a4 bq a1 a5 e0 a6 ag;obtain⟨bq,a1,a5⟩:=bm.two;refine NB (v:=.tuple #[.agg #[.slice bc bU L,.slice aZ tn S,.slice bl hn a7,.int .i64 s.fault],true]) (by simp[results,Tryz.results32,go_sem,bq]) rfl ?_;rw[bZ.o];show dd nC w (bu s t (next f)) true _ _
   exact hh (aq:=bu s t (next f)) (q:=⟨bc,bU,L,aZ,tn,S,bl,hn,a7⟩) bB.1 bj.2 (λb O=>by have:=al.2.2.2.1.lt;omega) (ax al.1.size) bj.1 (by rw[ek bW.2.2.1])
 .have ac:x.op=1:=ad;have dj:(x.op == 6)=false:=by simpa using bG
  cases aR:x.du with
  | true=>
   have bZ:=ae (b1.gl bb.o ac aR);rw[aR] at bs;have co:=aP.2.2.2.1 ac aR;have G:=bW.2.2.2.2.1;have bz:=bW.2.2.2.2.2;have cF:x.target<(bU:Int):=ad;have ap:=dy.2.2.2;obtain⟨ck,y,da,cW,⟨bH,aD⟩,cJ,b3,aj⟩:=aT.1.oz.du (j:=x.target.toNat) (by show x.target.toNat<bU;omega);simp only at y;subst y;have I:=ae (aj r);clear bG ac b1 co G bz aj;go_upto_region 13 with(fail);generalize hX:World.setCell _ _ _=Y;have bT:dG aW Y {s with threads:=s.threads.set t.toNat (fs++[next f]),globals:=s.globals.set x.target.toNat r} b6.heap.size ⟨some ⟨ck,0,none⟩,bU,L,aZ,tn,S,bl,hn,a7⟩ xs F1 F2 bJ cb:=hX▸I.o;have ar:=cP hX;have fk:=b3;have bA:Ext w Y:=Fr.low (M:=λb=>b=ck) (Fr.trans (Fr.mono (al.1.trans aT.2.1) λ_ h=>h.elim) ar) λb O=>by have:=al.1.size;omega
   have k:=aT.2.2.on ar (ax al.2.2.2.1.lt);have bB:=ay bT k bA;clear e0 a6 ag bq a1 a5;obtain⟨e0,a6,ag⟩:=bT.o.two;obtain⟨bq,a1,a5⟩:=k.two;clear hX bT ar bA k;go_wp2_with(fail);generalize hX:World.setCell _ _ _=Z;obtain⟨bm,bd,a4⟩:=a9 (w:=w) [.slice (some ⟨ck,0,none⟩) bU L,.slice aZ tn S,.slice bl hn a7,.int .i64 s.fault] (by rfl) bB.2.1 bB.2.2 ad hX;have bj:=ah bd a4;clear hX bd a4 bq a1 a5 e0 a6 ag;obtain⟨bq,a1,a5⟩:=bm.two;refine NB (v:=.tuple #[.agg #[.slice (some ⟨ck,0,none⟩) bU L,.slice aZ tn S,.slice bl hn a7,.int .i64 s.fault],true]) (by simp[results,Tryz.results32,go_sem,bq]) rfl ?_;rw[bZ.o];show dd nC w ({bu s t (next f) with globals:=s.globals.set x.target.toNat r}) true _ _
   exact hh (aq:={bu s t (next f) with globals:=s.globals.set x.target.toNat r}) (q:=⟨some ⟨ck,0,none⟩,bU,L,aZ,tn,S,bl,hn,a7⟩) bB.1 bj.2 (λb O=>by have:=al.2.2.2.1.lt;omega) (ax al.1.size) bj.1 (by rw[ek bW.2.2.1])
  | false=>
   have bZ:=ae (b1.lo bb.o ac aR);rw[aR] at bs;have aa:=aP.2.2.2.2 ac aR;have fn:=cc.2.2.2.2;have cF:x.target<(i2:Int):=ad;have ap:=dy.2.2.2;obtain⟨T,dm,da,cW,⟨bH,aD⟩,cJ,b3,hints⟩:=aT.1.ints x.target.toNat r ad;subst dm;have I:=ae hints;clear bG ac b1 aa fn hints;go_upto_region 7 with(fail);exact CD
 ):p:=h
end DQ
open DQ in
theorem xp(u:aw)(s:ai)(t:Int)(f:ao)(cq:cR)(x:aA)(N:Nat)(w:World)(q:SV)(v:IV)(h:jJ u s t f cq x N)(cp:x.op=1\/x.op=6)(hs:q.Ok w s)(bK:v.Ok w x) :
  Calls prog 32 #[.agg (q.val s),t,.agg (v.val x)] w (dd nC w (b5 u s t f x).1 (b5 u s t f x).2):=by
 obtain⟨bP,c5,cC,fs,bv,cr⟩:=h.th;obtain⟨bI,bU,bx,TA,tn,tc,HA,hn,hc⟩:=q;obtain⟨eo,en,es,EA,em,ec,QA,qm,qc,dl,j,dh,KA,di,kc⟩:=v;obtain⟨O,bD,ch,cT,n,fc,IA,i,ic,bC,l,lc,e,hT⟩:=hs.at_.top h.sm h.ht;simp only at e;subst e;exact B8
end Go.Proofs.YtnigabjngpnbiabGreat
