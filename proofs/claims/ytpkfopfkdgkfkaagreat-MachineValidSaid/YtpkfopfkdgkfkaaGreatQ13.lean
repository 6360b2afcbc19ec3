/- Part 13 of the proof. No condition of its own. -/
import Derived.Test.YtpkfopfkdgkfkaaGreatQ12
namespace Go.Proofs.YtpkfopfkdgkfkaaGreat
open Go.RowKit Go.Proofs.Tryz
set_option maxRecDepth 1000000
set_option maxHeartbeats 25600000
set_option linter.unusedVariables false
variable{t:Int}{fs:List al}{g gn i ic j l lc n:Nat}{M:Nat->Prop}{GA IA:Mt}{p:Prop}{e:VE}{W Z:World}{u:aA}{x:aC}{f:al}
abbrev tC:Array Value:=#[.int .i64 0,.int .i64 0,.bool false,.int .i64 0,.int .i64 0,.string ⟨#[]⟩,.slice none 0 0,.bool false,.int .i64 0,.slice none 0 0,.slice none 0 0,.slice none 0 0]
structure SV.Is(q:SV)(w:World)(P:Nat->Prop)(s:ak):Prop where
 at_:lP w P s q.GA q.gn q.TA q.tn q.HA q.hn
 gc:q.gn<=q.gc
 tc:q.tn<=q.tc
 hc:q.hn<=q.hc
def cX(P:Nat->Prop)(w:World)(s:ak)(b:Bool)(e:Ending)(ab:World):Prop:=∃q:SV,e=.returned (.tuple #[.agg (q.val s),.bool b])/\q.Is ab (λk=>P k\/(w.heap.size<=k/\k<ab.heap.size)) s/\Ext w ab
abbrev mP:Nat->Prop:=λ_=>False
theorem SV.Is.ok{q:SV}{w:World}{P:Nat->Prop}{s:ak}(h:q.Is w P s)(bg:∀b,P b->b<w.heap.size):q.Ok w s:=⟨h.at_.mono bg,h.gc,h.tc,h.hc⟩
theorem SV.Is.mono{q:SV}{w:World}{P de:Nat->Prop}{s:ak}(h:q.Is w P s)(bg:∀b,P b->de b):q.Is w de s:=⟨h.at_.mono bg,h.gc,h.tc,h.hc⟩
theorem SV.Is.ai{q:SV}{w ab:World}{P:Nat->Prop}{s:ak}(h:q.Is w P s)(aj:∀b,P b->ab.heap[b]?=w.heap[b]?):q.Is ab P s:=⟨⟨h.at_.g.ai aj,h.at_.t.ai aj,h.at_.h.ai aj⟩,h.gc,h.tc,h.hc⟩
theorem qX.sv{w:World}{s:ak}{TA HA:Mt}{gc tn tc hn hc:Nat}{xs:List Value}{F1 F2 bL cd:List Nat}{P:Nat->Prop}(h:qX w s GA gn gc TA tn tc HA hn hc xs F1 F2 bL cd)(hl:∀b∈F1++(F2++(bL++cd)),P b):(⟨GA,gn,gc,TA,tn,tc,HA,hn,hc⟩:SV).Is w P s:=
 ⟨h.at_ hl,h.g.cap,h.t.cap,h.h.cap⟩
theorem s7(s:ak)(q:SV)(w:World)(h:q.Ok w s)(b1:Small s):Calls prog 50 #[.agg (q.val s)] w λe ab=>∃z:SV,e=.returned (.agg (z.val s))/\z.Is ab (fresh w ab) s/\Ext w ab:=by
 refine(fV s q.GA q.TA q.HA q.gn q.gc q.tn q.tc q.hn q.hc w h.at_ b1).mono ?_;rintro e ab ⟨GA,gc,TA,tc,HA,hc,xs,F1,F2,bL,cd,rfl,cz,bv,aw⟩;exact⟨⟨GA,q.gn,gc,TA,q.tn,tc,HA,q.hn,hc⟩,rfl,cz.sv bv,aw⟩
namespace Cy
theorem gS(h:p:=by
 have bt:=ag hs ht;clear hs ht;dsimp only[UV.val,SV.val];go_enter func49,ntmps49;go_upto_region 1 with(fail);generalize ba:World.alloc _ _=W;have aw:=lD ba;have ck:=h6 ba;have cv:=jy ba;have ah:=ag aw cv;obtain⟨bq,am,aG⟩:=ck.two;clear ba aw ck cv;go_wp2_with(fail);refine(y1 s bV TA HA bW bD tn tc hn hc t W (bt.1.on ah.1).at_ bt.2).mono ?_;rintro e aS ⟨rfl,aO⟩;have aj:=ah.2.aj aO;have bB:=ag (ah.1.trans aO) aj;clear bq am aG aO;obtain⟨bl,aD,aP⟩:=aj.two;clear aj;go_wp2_with(fail);generalize hX:World.setCell _ _ _=Z;obtain⟨bs,a9,bf⟩:=bA (w:=w) [(0:Int),(0:Int),false,(0:Int),(0:Int),Mq,(),false,(0:Int),(),(),()] (by rfl) bB.2 bB.1 ad hX;have bk:=ae a9;clear hX a9 bf bl aD aP;obtain⟨bl,aD,aP⟩:=bs.two;refine Mn (v:=.tuple #[.agg tC,false]) (by simp[results,Tryz.results49,go_sem,bl]) rfl ?_;exact⟨rfl,bk.o⟩
 ):p:=h
end Cy
open Cy in
theorem uk(u:aA)(s:ak)(t:Int)(w:World)(p:UV)(q:SV)(hs:q.Ok w s)(ht:ey s t=none) :
  Calls prog 49 #[.agg (p.val u),.agg (q.val s),t] w λe ab=>e=.returned (.tuple #[.agg tC,false])/\Ext w ab:=by
 exact gR
namespace Cz
theorem gS(h:p:=by
 have bt:=ag hs ht;clear hs ht;dsimp only[UV.val,SV.val];go_enter func76,ntmps76;go_upto_region 1 with(fail);generalize ba:World.alloc _ _=W;have aw:=lD ba;have ck:=h6 ba;have cv:=jy ba;have ah:=ag aw cv;obtain⟨bq,am,aG⟩:=ck.two;clear ba aw ck cv;go_wp2_with(fail);refine(ze s bV TA HA bW bD tn tc hn hc t W (bt.1.on ah.1).at_ bt.2).mono ?_;rintro e aS ⟨rfl,aO⟩;have aj:=ah.2.aj aO;have bB:=ag (ah.1.trans aO) aj;clear bq am aG aO aj;go_upto_region 2 with(fail);generalize hV:World.alloc _ _=V;have bo:=aU hV;have bL:=bB.2.aj bo;have cc:=ag (bB.1.trans bo) bL;obtain⟨bl,aD,aP⟩:=bL.two;clear hV bo bL;go_wp2_with(fail);generalize hX:World.setCell _ _ _=Z;obtain⟨bs,a9,bf⟩:=bA (w:=w) [(0:Int),(0:Int),false,(0:Int),(0:Int),Mq,(),false,(0:Int),(),(),()] (by rfl) cc.2 cc.1 ad hX;have bk:=ae a9;clear hX a9 bf bl aD aP;obtain⟨bl,aD,aP⟩:=bs.two;refine Mn (v:=.tuple #[.agg tC,false]) (by simp[results,Tryz.results76,go_sem,bl]) rfl ?_;exact⟨rfl,bk.o⟩
 ):p:=h
end Cz
open Cz in
theorem uL(u:aA)(s:ak)(t:Int)(w:World)(p:UV)(q:SV)(hs:q.Ok w s)(ht:ey s t=none) :
  Calls prog 76 #[.agg (p.val u),.agg (q.val s),t] w λe ab=>e=.returned (.tuple #[.agg tC,false])/\Ext w ab:=by
 exact gR
namespace CA
theorem lU(h:p:=by
 have ah:=az aw aQ cv;obtain⟨bq,am,aG⟩:=aQ.two;clear ba aw aQ cv;go_wp2_with(fail);refine(s7 s ⟨bV,bW,bD,TA,tn,tc,HA,hn,hc⟩ W (bt.1.on ah.1) bt.2).mono ?_;rintro e aS ⟨⟨bg,bJ,aY,a1,m,L,a4,cu,S⟩,rfl,ca,aO⟩;have cK:=ah.2.1.aj aO;have H1:=bF ca (ah.1.trans aO) cK (ah.2.2.aj aO);clear bq am aG ca aO;obtain⟨bq,am,aG⟩:=cK.two;clear cK;go_upto_region 3 with(fail);generalize hX:World.setCell _ _ _=X;obtain⟨bM,J⟩:=jG 3 [z] (jG 0 [.slice bg bJ aY,.slice a1 m L,.slice a4 cu S,.int .i64 s.fault] H1.2.2.1 rfl).1 hX;have aC:Fr (λb=>b=w.heap.size) aS X:=(jG 0 [.slice bg bJ aY,.slice a1 m L,.slice a4 cu S,.int .i64 s.fault] H1.2.2.1 rfl).2.trans J;have bI:au X w 26 #[.slice bg bJ aY,.slice a1 m L,.slice a4 cu S,z]:=by simpa[jg] using bM
 have br:=H1.2.2.2.on aC ad;have bu:Ext w X:=Fr.low (M:=λb=>b=w.heap.size) (Fr.trans (Fr.mono H1.2.1 λ_ h=>h.elim) aC) λb O=>ad;have aN:=az bu br aC;clear hX bM J aC bq am aG bu;obtain⟨bq,am,aG⟩:=bI.two;obtain⟨bl,aD,aP⟩:=br.two;clear bI br;go_wp2_with(fail);generalize hX:World.setCell _ _ _=Z;obtain⟨bs,a9,bf⟩:=bA (w:=w) [.slice bg bJ aY,.slice a1 m L,.slice a4 cu S,z] (by rfl) aN.2.1 aN.1 ad hX;have bk:=ag a9 bf;clear hX a9 bf bl aD aP bq am aG;obtain⟨bl,aD,aP⟩:=bs.two;refine Mn (v:=.tuple #[.agg #[.slice bg bJ aY,.slice a1 m L,.slice a4 cu S,z],true]) (by simp[results,Tryz.results99,go_sem,bl]) rfl ?_;have av:=aN.2.2.size;have cU:=bk.2.size;have P:w+1<W.heap.size:=ah.2.2.lt;have aX:(⟨bg,bJ,aY,a1,m,L,a4,cu,S⟩:SV).Is Z (fresh W aS) {s with fault:=z}:=SV.Is.ai (w:=aS) ⟨⟨H1.1.at_.g,H1.1.at_.t,H1.1.at_.h⟩,H1.1.gc,H1.1.tc,H1.1.hc⟩ λb O=>(bk.2.block b (ay O.2) (ay O.1)).trans (aN.2.2.block b O.2 (ay O.1));exact⟨⟨bg,bJ,aY,a1,m,L,a4,cu,S⟩,rfl,aX.mono λb O=>.inr ⟨by have:=O.1;omega,by have:=O.2;omega⟩,bk.1⟩
 ):p:=h
end CA
open CA in
theorem ll(s:ak)(q:SV)(z:Int)(w:World)(h:q.Ok w s)(b1:Small s):Calls prog 99 #[.agg (q.val s),z] w (cX mP w {s with fault:=z} true):=by
 obtain⟨bV,bW,bD,TA,tn,tc,HA,hn,hc⟩:=q;have bt:=ag h b1;clear h b1;dsimp only[SV.val];go_enter func99,ntmps99;exact lT
namespace CB
theorem lU(h:p:=by
 have ah:=az aw aQ cv;obtain⟨bq,am,aG⟩:=aQ.two;clear ba aw aQ cv;go_upto_region 2 with(fail);generalize hX:World.setCell _ _ _=X;obtain⟨bM,J⟩:=jG 3 [z] ah.2.1 hX;have bI:au X w 26 #[.slice bV bW bD,.slice TA tn tc,.slice HA hn hc,z]:=by simpa[jg] using bM
 have br:=ah.2.2.on J ad;have bu:Ext w X:=Fr.low (M:=λb=>b=w.heap.size) (Fr.trans (Fr.mono ah.1 λ_ h=>h.elim) J) λb O=>ad;have aN:=ag bu br;clear hX bM J bq am aG bu;obtain⟨bq,am,aG⟩:=bI.two;obtain⟨bl,aD,aP⟩:=br.two;clear bI br;go_wp2_with(fail);generalize hX:World.setCell _ _ _=Z;obtain⟨bs,a9,bf⟩:=bA (w:=w) [.slice bV bW bD,.slice TA tn tc,.slice HA hn hc,z] (by rfl) aN.2 aN.1 ad hX;have bk:=ae a9;clear hX a9 bf bl aD aP bq am aG;obtain⟨bl,aD,aP⟩:=bs.two;refine Mn (v:=.tuple #[.agg #[.slice bV bW bD,.slice TA tn tc,.slice HA hn hc,z],true]) (by simp[results,Tryz.results79,go_sem,bl]) rfl ?_;have bn:=bt.1.ai (ab:=Z) λb O=>bk.block b (bt.2 b O) λh=>h;exact⟨⟨bV,bW,bD,TA,tn,tc,HA,hn,hc⟩,rfl,SV.Is.mono ⟨⟨bn.at_.g,bn.at_.t,bn.at_.h⟩,bn.gc,bn.tc,bn.hc⟩ λb O=>.inl O,bk.o⟩
 ):p:=h
end CB
open CB in
theorem pa(P:Nat->Prop)(s:ak)(q:SV)(z:Int)(w:World)(h:q.Is w P s)(bg:∀b,P b->b<w.heap.size):Calls prog 79 #[.agg (q.val s),z] w (cX P w {s with fault:=z} true):=by
 obtain⟨bV,bW,bD,TA,tn,tc,HA,hn,hc⟩:=q;have bt:=ag h bg;clear h bg;dsimp only[SV.val];go_enter func79,ntmps79;exact lT
theorem JI(g c:Value)(O hn hc cm n fc:Nat)(t:Int)(w:World)(h0:0<=t)(an:t<hn)(dw:O<w.heap.size)(aZ:w.cell? ⟨O,t.toNat,none⟩=some (.slice (some ⟨cm,0,none⟩) (n+1) fc))(aq:n<=1000000) :
  Calls prog 54 #[.agg #[g,c,.slice (some ⟨O,0,none⟩) hn hc,(0:Int)],t] w λe ab=>e=.returned (.pointer (some ⟨cm,n*4,none⟩))/\Ext w ab:=by
 have:=ya g c O 0 hn hc cm 0 n fc t w h0 an dw (by rw[L8];exact aZ) aq
 rwa [L8] at this
theorem et{s:ak}{S:al}(h:s.threads[t.toNat]?=some (fs++[f])):bt s t S={s with threads:=s.threads.set t.toNat (fs++[S])}:=by
 unfold bt;rw[lp h,kH]
theorem sR{w:World}{ag:Nat}{v:Value}(h:g≠ag\/i≠j):(w.setCell ⟨g,i,none⟩ v).cell? ⟨ag,j,none⟩=w.cell? ⟨ag,j,none⟩:=by
 apply World.cell?_setCell_other
 intro he;injection he with ac ap;omega
structure dI(B:Nat)(w:World)(s:ak)(N:Nat)(q:SV)(xs:List Value)(F1 F2 bL cd:List Nat):Prop where
 st:qX w s q.GA q.gn q.gc q.TA q.tn q.tc q.HA q.hn q.hc xs F1 F2 bL cd
 o:au w N 26 (q.val s)
 ne:N∉F1++(F2++(bL++cd))
 lo:∀b∈F1++(F2++(bL++cd)),B<=b/\b<w.heap.size
 go:B<=N
section
variable {B:Nat} {w ab:World} {s:ak} {N:Nat} {q:SV} {xs:List Value} {F1 F2 bL cd:List Nat}
theorem dI.aj(h:dI B w s N q xs F1 F2 bL cd)(he:Ext w ab):dI B ab s N q xs F1 F2 bL cd:=
 ⟨h.st.ai λb O=>he.block b (h.lo b O).2 λh=>h,h.o.aj he,h.ne,λb O=>⟨(h.lo b O).1,LL (h.lo b O).2 he.size⟩,h.go⟩
theorem dI.cZ(h:dI B w s N q xs F1 F2 bL cd)(he:Fr M w ab)(hM:∀b,M b->b<B):dI B ab s N q xs F1 F2 bL cd:=
 ⟨h.st.ai λb O=>he.block b (h.lo b O).2 λhm=>by have:=hM b hm;have:=(h.lo b O).1;omega,h.o.on he (λhm=>by have:=hM N hm;have:=h.go;omega),h.ne,λb O=>⟨(h.lo b O).1,LL (h.lo b O).2 he.size⟩,h.go⟩
theorem dI.store(h:dI B w s N q xs F1 F2 bL cd){Q:ak}{p:Addr}{u:Value}(hp:p.block∈F1++(F2++(bL++cd)))(cz:qX (w.setCell p u) Q q.GA q.gn q.gc q.TA q.tn q.tc q.HA q.hn q.hc xs F1 F2 bL cd)(J:Q.fault=s.fault):dI B (w.setCell p u) Q N q xs F1 F2 bL cd:=by
 refine⟨cz,?_,h.ne,λb O=>⟨(h.lo b O).1,by simpa[World.setCell] using (h.lo b O).2⟩,h.go⟩;have:=h.o.Kc (p:=p) (λhe=>h.ne (he▸hp)) u;unfold SV.val at this ⊢
 rwa [J]
theorem dI.ok(h:dI B w s N q xs F1 F2 bL cd):q.Is w (λb=>B<=b/\b<w.heap.size) s:=(show (⟨q.GA,q.gn,q.gc,q.TA,q.tn,q.tc,q.HA,q.hn,q.hc⟩:SV).Is w _ s from h.st.sv h.lo)
structure sj(B:Nat)(w:World)(s:ak)(N:Nat)(q:SV)(xs:List Value)(F1 F2 bL cd:List Nat)(t:Int)(fs:List al)(f:al)(cm:Nat)(IA:Mt)(i ic:Nat)(bw:Mt)(l lc:Nat):Prop where
 oz:dI B w s N q xs F1 F2 bL cd
 lt:cm<w.heap.size
 c0:w.cell? ⟨cm,fs.length*4,none⟩=some (.int .i64 f.proc)
 c1:w.cell? ⟨cm,fs.length*4+1,none⟩=some (.int .i64 f.pc)
 c2:w.cell? ⟨cm,fs.length*4+2,none⟩=some (.slice IA i ic)
 c3:w.cell? ⟨cm,fs.length*4+3,none⟩=some (.slice bw l lc)
 fz:∀j,w.frozen? ⟨cm,j,none⟩=false
 ne:cm≠N
 ge:B<=cm
 hd:∃O fc,q.HA=some ⟨O,0,none⟩/\t.toNat<q.hn/\O<w.heap.size/\O≠cm/\O≠N/\B<=O/\(∀j,w.frozen? ⟨O,j,none⟩=false)/\w.cell? ⟨O,t.toNat,none⟩=some (.slice (some ⟨cm,0,none⟩) (fs.length+1) fc)/\fs.length+1<=fc
 pc:∀v,dI B (w.setCell ⟨cm,fs.length*4+1,none⟩ (.int .i64 v)) {s with threads:=s.threads.set t.toNat (fs++[{f with pc:=v}])} N q xs F1 F2 bL cd
 ints:∀j v,j<i->∃T,IA=some ⟨T,0,none⟩/\T<w.heap.size/\w.frozen? ⟨T,j,none⟩=false/\(∃u,w.cell? ⟨T,j,none⟩=some u)/\T≠N/\B<=T/\dI B (w.setCell ⟨T,j,none⟩ (.int .i64 v)) {s with threads:=s.threads.set t.toNat (fs++[{f with ints:=f.ints.set j v}])} N q xs F1 F2 bL cd
theorem dI.HU(bn:dI B w s N q xs F1 F2 bL cd)(bK:s.threads[t.toNat]?=some (fs++[f])){O cm fc:Nat}{bw:Mt}(lH:q.HA=some ⟨O,0,none⟩)
  (hc:w.cell? ⟨O,t.toNat,none⟩=some (.slice (some ⟨cm,0,none⟩) (fs.length+1) fc)) (c2:w.cell? ⟨cm,fs.length*4+2,none⟩=some (.slice IA i ic)) (c3:w.cell? ⟨cm,fs.length*4+3,none⟩=some (.slice bw l lc)) :
  sj B w s N q xs F1 F2 bL cd t fs f cm IA i ic bw l lc:=by
 have dA:∀b,b∈cd->b∈F1++(F2++(bL++cd)):=λb O=>by simp[O]
 have dt:∀b,b∈bL->b∈F1++(F2++(bL++cd)):=λb O=>by simp[O]
 obtain⟨a1,bx,ck,Z,o,cG,bi,aP,bQ,d,m,cj,k,aJ,a,G,ao,S,g,d0,d1,d2,d3,h,e,n,c,_⟩:=bn.st.top bK;have e1:=lH.symm.trans d;injection e1 with e1;injection e1 with e1 _;subst e1;have e2:=hc.symm.trans S;injection e2 with e2;injection e2 with e2 _ e3;injection e2 with e2;injection e2 with e2 _;subst e2 e3;have be:=c2.symm.trans d2;injection be with be;injection be with be co bD;subst be co bD;have e7:=c3.symm.trans d3;injection e7 with e7;injection e7 with e7 e8 e9;subst e7 e8 e9;refine⟨bn,k,d0,d1,d2,d3,e,λhe=>bn.ne (he▸dA _ a),(bn.lo _ (dA _ a)).1,⟨O,fc,d,m,cj,?_,λhe=>bn.ne (he▸dt _ aJ),(bn.lo _ (dt _ aJ)).1,h,S,g⟩,λv=>bn.store (dA _ a) (n v) rfl,λj v bd=>?_⟩
 .intro he;subst he;have nd:=bn.st.nd;have n1:=(List.nodup_append.1 nd).2.1;have n2:=(List.nodup_append.1 n1).2.1;exact(List.nodup_append.1 n2).2.2 O aJ O a rfl
 .obtain⟨T,dk,c9,dR,r,cH,cz⟩:=c j v bd;exact⟨T,dk,c9,r,cH,λhe=>bn.ne (he▸dA _ dR),(bn.lo _ (dA _ dR)).1,bn.store (dA _ dR) cz rfl⟩
theorem dI.top(h:dI B w s N q xs F1 F2 bL cd){t:Int}{fs:List al}{f:al}(bK:s.threads[t.toNat]?=some (fs++[f]))(h0:0<=t)(av:s.fault=0)(aq:fs.length<=1000000) :
  ∃cm IA i ic bw l lc,i=f.ints.length/\l=f.an.length/\
   (∀ab,Ext w ab->Calls prog 54 #[.agg (q.val s),t] ab λe j=>e=.returned (.pointer (some ⟨cm,fs.length*4,none⟩))/\Ext ab j)/\
   ∀ab,Ext w ab->sj B ab s N q xs F1 F2 bL cd t fs f cm IA i ic bw l lc:=by
 obtain⟨O,cm,fc,IA,i,ic,bw,l,lc,lH,a8,T,ce,aE,bG,aX,hl,hc,aJ,c0,c1,c2,c3,U,a,dc,hints,_⟩:=h.st.top bK;refine⟨cm,IA,i,ic,bw,l,lc,aX,hl,λab he=>?_,λab he=>?_⟩
 .have:=JI (.slice q.GA q.gn q.gc) (.slice q.TA q.tn q.tc) O q.hn q.hc cm fs.length fc t ab h0 ad (LL T he.size) ((he.cell T λh=>h).trans hc) aq;unfold SV.val;rw[lH,av];exact this
 .exact(h.aj he).HU bK lH ((he.cell T λh=>h).trans hc) ((he.cell ce λh=>h).trans c2) ((he.cell ce λh=>h).trans c3)
theorem sj.JY{cm:Nat}{bw:Mt}(h:sj B w s N q xs F1 F2 bL cd t fs f cm IA i ic bw l lc)(bK:s.threads[t.toNat]?=some (fs++[f]))(v:Int):
  sj B (w.setCell ⟨cm,fs.length*4+1,none⟩ v) {s with threads:=s.threads.set t.toNat (fs++[{f with pc:=v}])} N q xs F1 F2 bL cd t fs {f with pc:=v} cm IA i ic bw l lc:=by
 obtain⟨O,fc,lH,_,T,bi,_,_,_,hc,_⟩:=h.hd;have an:=(List.getElem?_eq_some_iff.1 bK).1;exact(h.pc v).HU (by simp[an]) lH ((sR (.inl (Ne.symm bi))).trans hc) ((sR (.inr ad)).trans h.c2) ((sR (.inr ad)).trans h.c3)
theorem dI.dv(h:dI B w s N q xs F1 F2 bL cd){j:Nat}(bd:j<q.gn):∃ct,q.GA=some ⟨ct,0,none⟩/\ct<w.heap.size/\w.frozen? ⟨ct,j,none⟩=false/\(∃u,w.cell? ⟨ct,j,none⟩=some u)/\ct≠N/\B<=ct/\
  ∀v,dI B (w.setCell ⟨ct,j,none⟩ (.int .i64 v)) {s with globals:=s.globals.set j v} N q xs F1 F2 bL cd:=by
 obtain⟨ct,hG,hl,J,hc,hm,cz⟩:=h.st.dv bd;have c5:ct∈F1++(F2++(bL++cd)):=by simp[hm]
 exact⟨ct,hG,hl,J,hc,λhe=>h.ne (he▸c5),(h.lo _ c5).1,λv=>h.store c5 (cz v) rfl⟩
end
structure jX(u:aA)(s:ak)(t:Int)(f:al)(cn:cM)(x:aC)(N:Nat):Prop where
 hU:tD u
 hS:aW u N s
 sm:Small s
 ht:ey s t=some f
 hF:cf u f
 hp:u.procs[f.proc.toNat]?=some cn
 hx:cn.code[f.pc.toNat]?=some x
 ok:∃len:Nat,cn.code.length=len+1/\ie (bx u) cn.locals cn.an len x
 nx:x.op≠8->f.pc+1<cn.code.length
 pc:0<=f.pc/\f.pc<=201
 il:x.ints.length<=200
 kl:x.places.length<=200
theorem jX.of{s:ak}{N:Nat}(hU:tD u)(hS:aW u N s)(hN:N<=100000)(ht:ey s t=some f):∃cn x,jX u s t f cn x N/\ek u s t=some x:=by
 obtain⟨hF,_,_⟩:=hS.top ht;obtain⟨cn,x,hp,hx,ac,ap,aV,bz,cI,bM,j,cW,Z⟩:=hU.Jx hF;have hc:=Z.code;obtain⟨c,cz,cb,_⟩:=hc;have hl:cn.code.length=c.length+1:=by rw[cz];simp
 exact⟨cn,x,⟨hU,hS,hS.small hU.ok hN,ht,hF,hp,hx,cI,cW,⟨bz,ad⟩,bM,j⟩,ug ht hp hx⟩
theorem jX.Gj{s:ak}{cn:cM}{N:Nat}(h:jX u s t f cn x N)(he:gw (bx u) cn.locals e){w:World}{c0 c1 c2 c3:Value}
  (aR:Sl w (aq w) GA gn (s.globals.map .i)) (aX:Sl w (aq w) IA i (f.ints.map .i)) (a5:(bm e).rep w (aq w) [c0,c1,c2,c3]):lO w GA IA gn i s.globals f.ints e [c0,c1,c2,c3]/\nV s.globals f.ints e:=by
 obtain⟨bn,aZ,_⟩:=x2 h.hS h.hF h.hp he;have ac:=aR.1;have ap:=aX.1;rw[LO] at ac ap;exact⟨⟨aR.ints,aX.ints,by rw[<-ac,<-ap];exact bn,kI e _ a5⟩,aZ⟩
structure KW(u:aA)(s:ak)(t:Int)(f:al)(x:aC)(r:Int×Int):Prop where
 bad:r.2≠0->b5 u s t f x=({s with fault:=r.2},true)
 bz:r.2=0->x.op=6->r.1=0->b5 u s t f x=(bt s t {f with pc:=x.target},true)
 bn:r.2=0->x.op=6->r.1≠0->b5 u s t f x=(bt s t (next f),true)
 gl:r.2=0->x.op=1->x.dv=true->b5 u s t f x=({bt s t (next f) with globals:=s.globals.set x.target.toNat r.1},true)
 lo:r.2=0->x.op=1->x.dv=false->b5 u s t f x=(bt s t {next f with ints:=f.ints.set x.target.toNat r.1},true)
theorem KL{s:ak}(he:x.expr=some e)(cw:x.op=1\/x.op=6):KW u s t f x (ev s.globals f.ints e):=by
 have h0:b5 u s t f x=(if (ev s.globals f.ints e).2≠0 then ({s with fault:=(ev s.globals f.ints e).2},true)
  else if x.op=6 then (bt s t (if (ev s.globals f.ints e).1=0 then {f with pc:=x.target} else next f),true)
  else if x.dv then ({bt s t (next f) with globals:=s.globals.set x.target.toNat (ev s.globals f.ints e).1},true)
  else (bt s t {next f with ints:=f.ints.set x.target.toNat (ev s.globals f.ints e).1},true)):=by
  unfold b5;rw[if_pos cw,he];rfl
 generalize ev s.globals f.ints e=r at *;refine⟨λh=>?_,λh bM aL=>?_,λh bM aL=>?_,λh ac aR=>?_,λh ac aR=>?_⟩
 .rw[h0,if_pos h]
 .rw[h0,if_neg ad,if_pos bM,if_pos aL]
 .rw[h0,if_neg ad,if_pos bM,if_neg aL]
 .rw[h0,if_neg ad,if_neg ad,if_pos aR]
 .rw[h0,if_neg ad,if_neg ad,if_neg (by simp[aR])]
theorem jX.th{s:ak}{cn:cM}{N:Nat}(h:jX u s t f cn x N):s.fault=0/\0<=t/\t<s.threads.length/\∃fs,s.threads[t.toNat]?=some (fs++[f])/\fs.length<=1000000:=by
 obtain⟨h0,ac,fs,bK⟩:=jR h.ht;have:=(List.getElem?_eq_some_iff.1 bK).1;exact⟨h0,ac,ad,fs,bK,by have:=(h.sm.f _ (LN bK)).1;simp at this;omega⟩
theorem g6{w:World}{B:Nat}{s Q:ak}{N:Nat}{q:SV}{xs:List Value}{F1 F2 bL cd:List Nat}(h:dI B W s N q xs F1 F2 bL cd)(J:Fr M W Z)(hM:∀b,M b->b<B)(aQ:w.heap.size<=B)(aw:Ext w Z)(hs:s=Q):cX mP w Q true (.returned (.tuple #[.agg (q.val Q),true])) Z:=by
 subst hs;exact⟨q,rfl,(h.cZ J hM).ok.mono λb O=>.inr ⟨ad,O.2⟩,aw⟩
theorem eH{w aT b7:World}{Q:ak}{b:Bool}{q:SV}(h:q.Is b7 (λk=>mP k\/(aT.heap.size<=k/\k<b7.heap.size)) Q)(J:Fr M b7 Z)(hM:∀b,M b->b<aT.heap.size)(aQ:w.heap.size<=aT.heap.size)(aw:Ext w Z):cX mP w Q b (.returned (.tuple #[.agg (q.val Q),.bool b])) Z:=
 ⟨q,rfl,(h.ai λk aj=>J.block k (aj.resolve_left λh=>h).2 λhm=>by have:=hM k hm;have:=(aj.resolve_left λh=>h).1;omega).mono λk aj=>.inr ⟨by have:=(aj.resolve_left λh=>h).1;omega,by have:=(aj.resolve_left λh=>h).2;have:=J.size;omega⟩,aw⟩
namespace CC
theorem dC(h:p:=by
 go_upto_region 13 with(fail);generalize hX:World.setCell _ _ _=Y;have b6:dI aT Y {s with threads:=(s.threads.set t.toNat (fs++[next f])).set t.toNat (fs++[{next f with ints:=(next f).ints.set x.target.toNat r}])} b7.heap.size ⟨bg,bW,aY,a1,tn,L,a4,hn,S⟩ xs F1 F2 bL cd:=hX▸I.o;have ar:=cp hX;have bb:=bH;have bG:Ext w Y:=Fr.low (M:=λb=>b=T) (Fr.trans (Fr.mono (ah.1.trans aQ.2.1) λ_ h=>h.elim) ar) λb O=>by have:=ah.1.size;omega
 have aM:=aQ.2.2.on ar (ay ah.2.2.2.1.lt);have bC:=az b6 aM bG;clear e0 be a6 bl aD aP;obtain⟨e0,be,a6⟩:=b6.o.two;obtain⟨bl,aD,aP⟩:=aM.two;clear hX b6 ar bG aM;go_wp2_with(fail);generalize hX:World.setCell _ _ _=Z;obtain⟨bs,a9,bf⟩:=bA (w:=w) [.slice bg bW aY,.slice a1 tn L,.slice a4 hn S,.int .i64 s.fault] (by rfl) bC.2.1 bC.2.2 ad hX;have bk:=ag a9 bf;clear hX a9 bf bl aD aP e0 be a6;obtain⟨bl,aD,aP⟩:=bs.two;refine Mn (v:=.tuple #[.agg #[.slice bg bW aY,.slice a1 tn L,.slice a4 hn S,.int .i64 s.fault],true]) (by simp[results,Tryz.results53,go_sem,bl]) rfl ?_;rw[b3.o];show cX mP w (bt s t {next f with ints:=f.ints.set x.target.toNat r}) true _ _
 exact g6 (Q:=bt s t {next f with ints:=f.ints.set x.target.toNat r}) (q:=⟨bg,bW,aY,a1,tn,L,a4,hn,S⟩) bC.1 bk.2.drew (λb O=>by have:=ah.2.2.2.1.lt;omega) (ay ah.1.size) bk.1.drew (by rw[et bN.2.2.1,List.set_set];rfl)
 ):p:=h
theorem Bm(h:p:=by
 have cg:=KL (u:=u) (s:=s) (t:=t) (f:=f) hex cw;have cC:bW=s.globals.length:=by have:=hs.at_.g.1;simpa using this.symm
 have cl:=h.hS.dv;have dc:=h.pc;have c3:=h.nx;have aN:=cL h aE hex cH aW;have bN:=dm av dl bK ce cC cl;have bO:=ae cg;have dJ:=bF dc c3 hlen dz;have cc:=az hs bE hT;clear av bK cC cl hlen dc c3 aX hex aE cH aW ce cA dz dl h cg hs bE hT;dsimp only[SV.val,IV.val];go_enter func53,ntmps53;go_upto_region 1 with(fail);generalize ba:World.alloc _ _=W;have aw:=lD ba;have bI:=jx ba;have ck:=h6 ba;have cv:=jy ba;have ah:=dm aw bI ck cv (cc.1.on aw) (cc.2.1.on aw);have aa:=ae (cc.2.2.on aw);obtain⟨a0,ai,af⟩:=bI.two;obtain⟨bq,am,aG⟩:=ck.two;clear ba aw bI ck cv cc;refine eJ (λ_=>False) [(0,3),(1,0),(2,3),(3,0),(4,0),(5,3),(6,1),(7,3),(8,3),(9,0),(10,2),(11,3),(12,3),(13,3),(14,3),(15,3)] ?_;refine pf ?_;refine ph ?_;refine pf ?_
 iterate 2 refine ph ?_
 refine pf ?_;refine aB rfl (λK hK=>?_);go_simp;refine(lq (aa.on (Fr.refl _ W).drew) _ _ _).mono ?_;rintro e aS ⟨rfl,aO⟩;have ab:=ae (aa.on (Fr.aG aO));have bB:=ae (Fr.aG aO);have cy:=ab.lf;have c2:=ab.c2;refine dq hK (aO) ?_;clear hK K;clear aO
 iterate 2 refine pf ?_
 refine Le ?_;refine ax rfl (λK hK=>?_);go_simp;have b2:(bm ex).rep aS (aq aS) [eo,en,es,.slice EA em ec]:=by
  have:=(ah.2.2.2.2.2.on bB.o).expr;rw[aN.2.2.1] at this;exact this
 refine(pq ex aS bV IA bW i bD ic s.globals f.ints _ _ _ _ (aN.1.Gj aN.2.1 (ah.2.2.2.2.1.on bB.o).at_.g ab.ints b2).1).mono ?_;rintro e aT ⟨rfl,bj⟩;have a8:=ae (bB.trans (Fr.of bj));generalize ev s.globals f.ints ex=R at *;obtain⟨r,z⟩:=R;clear b2 bj a0 ai af bq am aG c2 cy;obtain⟨a0,ai,af⟩:=(ah.2.1.aj a8.o).two;have bS:=a8.size;refine dX hK ?_;clear hK K
 iterate 5 refine pf ?_
 refine aF ?_;by_cases aL:z=0
 case neg=>
  have q5:(z != 0)=true:=by simpa using aL
  have b3:=ae (bO.bad aL);clear aL bO aa ab;go_wp2_with(fail);refine(ll s ⟨bV,bW,bD,TA,tn,tc,some ⟨O,bn,none⟩,hn,hc⟩ z aT (ah.2.2.2.2.1.on a8.o) aN.1.sm).mono ?_;rintro e b7 ⟨⟨bg,bJ,aY,a1,m,L,a4,cu,S⟩,rfl,ca,a7⟩;have ch:=ae ca;have cE:=(ah.2.2.2.1.aj a8.o).aj a7;have a3:=ag cE ((ah.1.trans a8.o).trans a7);obtain⟨bl,aD,aP⟩:=cE.two;clear ca a7 cE a0 ai af;go_wp2_with(fail);generalize hX:World.setCell _ _ _=Z;obtain⟨bs,a9,bf⟩:=bA (w:=w) [.slice bg bJ aY,.slice a1 m L,.slice a4 cu S,z] (by rfl) a3.1 a3.2 ad hX;have bk:=ag a9 bf;clear hX a9 bf bl aD aP;obtain⟨bl,aD,aP⟩:=bs.two;refine Mn (v:=.tuple #[.agg #[.slice bg bJ aY,.slice a1 m L,.slice a4 cu S,z],true]) (by simp[results,Tryz.results53,go_sem,bl]) rfl ?_;rw[b3.o];show cX mP w {s with fault:=z} true _ _
  exact eH (Q:={s with fault:=z}) (q:=⟨bg,bJ,aY,a1,m,L,a4,cu,S⟩) ch.o bk.2 (λb O=>by have:=ah.2.2.2.1.lt;omega) (ay ah.1.size) bk.1
 have q5:(z != 0)=false:=by simpa using aL
 have b1:=ae aL;clear aL aa ab;go_wp2_with(fail);refine(fV s bV TA (some ⟨O,bn,none⟩) bW bD tn tc hn hc aT (ah.2.2.2.2.1.on a8.o).at_ aN.1.sm).mono ?_;rintro e b7 ⟨bg,aY,a1,L,a4,S,xs,F1,F2,bL,cd,rfl,cz,bv,a7⟩;have bQ:=az cz bv a7;clear cz bv a7 a0 ai af;go_upto_region 5 with(fail);generalize hV:World.alloc _ _=V;have bo:=aU hV;have b8:=aI hV;have dG:=bQ.2.2.size;have hOut:dI aT V s b7 ⟨bg,bW,aY,a1,tn,L,a4,hn,S⟩ xs F1 F2 bL cd:=
  ⟨bQ.1.ai λb O=>bo.block b (bQ.2.1 b O).2 λh=>h,b8,λO=>by have:=(bQ.2.1 _ O).2;omega,λb O=>⟨(bQ.2.1 b O).1,by have:=(bQ.2.1 b O).2;have:=bo.size;omega⟩,dG⟩
 have G:Ext W V:=(a8.trans bQ.2.2).trans bo;obtain⟨bU,c1,i2,cT,df,c7,dg,c0,bc,aH,J⟩:=hOut.top bN.2.2.1 bN.2.1 bN.1 bN.2.2.2.1;have cc:=cL hOut aH J G c0;obtain⟨e0,be,a6⟩:=hOut.o.two;clear hV bo b8 hOut G aH J c0 bc;go_wp2_with(fail);refine(cc.2.1 V Mo).mono ?_;rintro e cS ⟨rfl,bd⟩;have P:=ae (cc.2.2.1 cS bd);have cj:=ae (cc.2.2.2.1.trans bd);clear e0 be a6 bd;have bT:=P.c1;have g2:=P.fz;have cP:=P.lt;have db:=dJ.1;go_upto_region 8 with(fail);generalize hX:World.setCell _ _ _=X;have bR:sj aT X {s with threads:=s.threads.set t.toNat (fs++[next f])} b7.heap.size ⟨bg,bW,aY,a1,tn,L,a4,hn,S⟩ xs F1 F2 bL cd t fs (next f) bU c1 i2 cT df c7 dg:=hX▸P.JY bN.2.2.1 (f.pc+1);have b4:=cp hX;have dH:=P.ge;have bu:Ext W X:=Fr.low (M:=λb=>b=bU) (Fr.trans (Fr.mono cj.o λ_ h=>h.elim) b4) λb O=>ad;have bp:=ah.2.2.1.aj bu;have br:=ah.2.2.2.1.aj bu;have aQ:=az bR bu br;obtain⟨bq,am,aG⟩:=bp.two;obtain⟨e0,be,a6⟩:=bR.oz.o.two;obtain⟨bl,aD,aP⟩:=br.two;have cx:=bR.c1;have bY:=bR.c2;have b9:=bR.fz;have H:=bR.lt;have cf:=bR.ne;clear hX bR b4 bu bp br bT g2 cP P;by_cases bM:x.op=6
 .have dr:(x.op == 6)=true:=by simpa using bM
  by_cases a5:r=0
  .have q7:(r == 0)=true:=by simpa using a5
   have b3:=ae (bO.bz b1.o bM a5);clear bM a5 bO;go_upto_region 13 with(fail);generalize hX:World.setCell _ _ _=Y;have b6:dI aT Y {s with threads:=(s.threads.set t.toNat (fs++[next f])).set t.toNat (fs++[{next f with pc:=x.target}])} b7.heap.size ⟨bg,bW,aY,a1,tn,L,a4,hn,S⟩ xs F1 F2 bL cd:=hX▸aQ.1.pc x.target;have ar:=cp hX;have bG:Ext w Y:=Fr.low (M:=λb=>b=bU) (Fr.trans (Fr.mono (ah.1.trans aQ.2.1) λ_ h=>h.elim) ar) λb O=>by have:=ah.1.size;omega
   have aM:=aQ.2.2.on ar (ay ah.2.2.2.1.lt);have bC:=az b6 aM bG;clear e0 be a6 bl aD aP;obtain⟨e0,be,a6⟩:=b6.o.two;obtain⟨bl,aD,aP⟩:=aM.two;clear hX b6 ar bG aM;go_wp2_with(fail);generalize hX:World.setCell _ _ _=Z;obtain⟨bs,a9,bf⟩:=bA (w:=w) [.slice bg bW aY,.slice a1 tn L,.slice a4 hn S,.int .i64 s.fault] (by rfl) bC.2.1 bC.2.2 ad hX;have bk:=ag a9 bf;clear hX a9 bf bl aD aP e0 be a6;obtain⟨bl,aD,aP⟩:=bs.two;refine Mn (v:=.tuple #[.agg #[.slice bg bW aY,.slice a1 tn L,.slice a4 hn S,.int .i64 s.fault],true]) (by simp[results,Tryz.results53,go_sem,bl]) rfl ?_;rw[b3.o];show cX mP w (bt s t {f with pc:=x.target}) true _ _
   exact g6 (Q:=bt s t {f with pc:=x.target}) (q:=⟨bg,bW,aY,a1,tn,L,a4,hn,S⟩) bC.1 bk.2 (λb O=>by have:=ah.2.2.2.1.lt;omega) (ay ah.1.size) bk.1 (by rw[et bN.2.2.1,List.set_set];rfl)
  .have q7:(r == 0)=false:=by simpa using a5
   have b3:=ae (bO.bn b1.o bM a5);clear bM a5 bO;have bC:=az aQ.1.oz aQ.2.2 (ah.1.trans aQ.2.1);go_wp2_with(fail);generalize hX:World.setCell _ _ _=Z;obtain⟨bs,a9,bf⟩:=bA (w:=w) [.slice bg bW aY,.slice a1 tn L,.slice a4 hn S,.int .i64 s.fault] (by rfl) bC.2.1 bC.2.2 ad hX;have bk:=ag a9 bf;clear hX a9 bf bl aD aP e0 be a6;obtain⟨bl,aD,aP⟩:=bs.two;refine Mn (v:=.tuple #[.agg #[.slice bg bW aY,.slice a1 tn L,.slice a4 hn S,.int .i64 s.fault],true]) (by simp[results,Tryz.results53,go_sem,bl]) rfl ?_;rw[b3.o];show cX mP w (bt s t (next f)) true _ _
   exact g6 (Q:=bt s t (next f)) (q:=⟨bg,bW,aY,a1,tn,L,a4,hn,S⟩) bC.1 bk.2 (λb O=>by have:=ah.2.2.2.1.lt;omega) (ay ah.1.size) bk.1 (by rw[et bN.2.2.1])
 .have ac:x.op=1:=ad;have dr:(x.op == 6)=false:=by simpa using bM
  cases aR:x.dv with
  | true=>
   have b3:=ae (bO.gl b1.o ac aR);rw[aR] at bq;have cB:=aN.2.2.2.1 ac aR;have k:=bN.2.2.2.2.1;have bi:=bN.2.2.2.2.2;have cF:x.target<(bW:Int):=ad;have U:=dJ.2.2.2;obtain⟨ct,y,c5,dv,⟨dt,dA⟩,ek,bH,aj⟩:=aQ.1.oz.dv (j:=x.target.toNat) (by show x.target.toNat<bW;omega);simp only at y;subst y;have I:=ae (aj r);clear bM ac bO cB k bi aj;go_upto_region 13 with(fail);generalize hX:World.setCell _ _ _=Y;have b6:dI aT Y {s with threads:=s.threads.set t.toNat (fs++[next f]),globals:=s.globals.set x.target.toNat r} b7.heap.size ⟨some ⟨ct,0,none⟩,bW,aY,a1,tn,L,a4,hn,S⟩ xs F1 F2 bL cd:=hX▸I.o;have ar:=cp hX;have cJ:=bH;have bG:Ext w Y:=Fr.low (M:=λb=>b=ct) (Fr.trans (Fr.mono (ah.1.trans aQ.2.1) λ_ h=>h.elim) ar) λb O=>by have:=ah.1.size;omega
   have aM:=aQ.2.2.on ar (ay ah.2.2.2.1.lt);have bC:=az b6 aM bG;clear e0 be a6 bl aD aP;obtain⟨e0,be,a6⟩:=b6.o.two;obtain⟨bl,aD,aP⟩:=aM.two;clear hX b6 ar bG aM;go_wp2_with(fail);generalize hX:World.setCell _ _ _=Z;obtain⟨bs,a9,bf⟩:=bA (w:=w) [.slice (some ⟨ct,0,none⟩) bW aY,.slice a1 tn L,.slice a4 hn S,.int .i64 s.fault] (by rfl) bC.2.1 bC.2.2 ad hX;have bk:=ag a9 bf;clear hX a9 bf bl aD aP e0 be a6;obtain⟨bl,aD,aP⟩:=bs.two;refine Mn (v:=.tuple #[.agg #[.slice (some ⟨ct,0,none⟩) bW aY,.slice a1 tn L,.slice a4 hn S,.int .i64 s.fault],true]) (by simp[results,Tryz.results53,go_sem,bl]) rfl ?_;rw[b3.o];show cX mP w ({bt s t (next f) with globals:=s.globals.set x.target.toNat r}) true _ _
   exact g6 (Q:={bt s t (next f) with globals:=s.globals.set x.target.toNat r}) (q:=⟨some ⟨ct,0,none⟩,bW,aY,a1,tn,L,a4,hn,S⟩) bC.1 bk.2 (λb O=>by have:=ah.2.2.2.1.lt;omega) (ay ah.1.size) bk.1 (by rw[et bN.2.2.1])
  | false=>
   have b3:=ae (bO.lo b1.o ac aR);rw[aR] at bq;have an:=aN.2.2.2.2 ac aR;have c0:=cc.2.2.2.2;have cF:x.target<(i2:Int):=ad;have U:=dJ.2.2.2;obtain⟨T,dk,c5,dv,⟨dt,dA⟩,ek,bH,hints⟩:=aQ.1.ints x.target.toNat r ad;subst dk;have I:=ae hints;clear bM ac bO an c0 hints;go_upto_region 7 with(fail);exact BU
 ):p:=h
end CC
open CC in
theorem wH(u:aA)(s:ak)(t:Int)(f:al)(cn:cM)(x:aC)(N:Nat)(w:World)(q:SV)(v:IV)(h:jX u s t f cn x N)(cw:x.op=1\/x.op=6)(hs:q.Ok w s)(bE:v.Ok w x) :
  Calls prog 53 #[.agg (q.val s),t,.agg (v.val x)] w (cX mP w (b5 u s t f x).1 (b5 u s t f x).2):=by
 obtain⟨av,dl,cA,fs,bK,ce⟩:=h.th;obtain⟨bV,bW,bD,TA,tn,tc,HA,hn,hc⟩:=q;obtain⟨eo,en,es,EA,em,ec,QA,qm,qc,dn,j,dj,KA,cO,kc⟩:=v;obtain⟨O,bn,cm,da,n,fc,IA,i,ic,bw,l,lc,e,hT⟩:=hs.at_.top h.sm h.ht;simp only at e;subst e;exact Bl
section
variable {P:Program} {ops:Array Oper} {Q:Exit->Act->World->Prop} {R:World->World->Prop} {tails:List Nat}
theorem xr{rest:PT}{aa:Nat->Nat->Nat->Act}{C:Nat->Nat->Nat->World->Prop}{G:Prop}(h:(∀x y z V,C x y z V->cS P ops Q R tails rest (aa x y z) V)->G)(key:∀x y z V,C x y z V->cS P ops Q R tails rest (aa x y z) V):G:=h key
end
section
variable {P:Program} {ops:Array Oper} {Q:Exit->Act->World->Prop} {R:World->World->Prop} {tails:List Nat}
theorem IX{k:Nat}{f:Nat->PT}{a:Act}{w:World}(h:ox P ops Q R tails i (f i) a w)(ap:ox P ops Q R tails j (f j) a w)(aV:ox P ops Q R tails k (f k) a w):cS P ops Q R tails (.pick [i,j,k] f) a w:=λm hm=>by
 simp only[L5,List.not_mem_nil,or_false] at hm;rcases hm with rfl|rfl|rfl
 .exact h
 .exact ap
 .exact aV
end
theorem JA(n:Nat):madeCells #[(0:Int)] (n*1)=(List.replicate n (Value.int .i64 0)).toArray:=by
 apply Array.toList_inj.1
 rw[rQ (f:=cO) (x:=0) (sz:=1) rfl rfl ad n,ua,List.map_replicate]
theorem uS(is:List Int)(n:Nat):splice (List.replicate n (Value.int .i64 0)) 0 (is.map cW)=(is++List.replicate (n - is.length) 0).map cW:=by
 unfold splice;simp[List.map_replicate]
theorem au.sl{w:World}{l:List Int}(h:au w g 3 (l.map cW).toArray)(hn:l.length=n){P:Nat->Prop}(bg:P g):Sl w P (some ⟨g,0,none⟩) n (l.map D.i):=by
 refine⟨by simpa using hn,λ_=>⟨g,0,l.map cW,rfl,bg,bX l,λj u hu=>?_⟩⟩;rw[L8,h.cell];simpa using hu
structure HZ(W:World)(L l:Nat)(a b c:Nat)(V:World):Prop where
 ext:Ext W V
 ba:au V a 3 (List.replicate L (Value.int .i64 0)).toArray
 bb:au V b 3 (List.replicate l (Value.int .i64 0)).toArray
 bc:au V c 50 #[.int .i64 0,.int .i64 0,.slice none 0 0,.slice none 0 0]
 ab:a≠b
 ac:a≠c
 KJ:b≠c
 lo:W.heap.size<=a/\W.heap.size<=b/\W.heap.size<=c
theorem h2(n:Nat):madeCells #[(0:Int)] n=(List.replicate n (Value.int .i64 0)).toArray:=by have:=JA n;rwa [Nat.mul_one] at this
theorem iy{V:World}{b ty c:TypeId}{j d a:Array Value}(hV:(((W.alloc (.cells j b)).alloc (.cells d ty)).alloc (.cells a c)).drew=V):Ext W V/\au V W b j/\au V (W.heap.size+1) ty d/\au V (W.heap.size+1+1) c a:=by
 subst hV;exact⟨(((Mo.alloc _).alloc _).alloc _).drew,((Mp).alloc _).alloc _,(au.gX _ _ _ (by simp)).alloc _,au.gX _ _ _ (by simp)⟩
theorem r2{P:Program}{w:World}(e f ty elem:TypeId)(hu:P.underlying e=some (.slice elem))(U:(P.info? elem).map (·.size)=some 1)
  {dp sp:Mt} {c dCap d sCap:Nat} {g:Nat} {cur:List Value} {t:TypeId} (aR:au w g t cur.toArray) (cs:List Value) (hn:cs.length=Nat.min d c)
  (u:0<cs.length->dp=some ⟨g,0,none⟩/\∃a,sp=some a/\∀j v,cs[j]?=some v->w.cell? (a.add j)=some v)
  (i:cs.length<=cur.length) (ac:∀v∈cs,v.oneCell'=true) :
  ∃ab,(Builtin.copy_ #[e,f] ty #[.slice dp c dCap,.slice sp d sCap]).run P w=.ok (goInt cs.length) ab/\au ab g t (splice cur 0 cs).toArray/\Fr (λb=>b=g) w ab:=by
 by_cases h0:cs.length=0
 .obtain rfl:cs=[]:=List.eq_nil_of_length_eq_zero h0;exact⟨w,run_copy_none w e f ty elem dp sp c dCap d sCap hu U (by simpa using hn.symm),by simpa[splice] using aR,Mo⟩
 .obtain⟨rfl,a,rfl,aA⟩:=u ad;exact⟨_,_root_.Go.run_copy_row (P:=P) w e f ty elem g 0 c dCap a d sCap cur.toArray t cs hu U aR hn aA (by simpa using i) ac,(show _=_ by simpa[splice] using setRow_heap w g _ _ t _ aR),⟨rfl,rfl,rfl,by simp[World.setRow],λk aj bi=>setRow_other w g k _ bi⟩⟩
theorem cw.HI{w:World}{B:Nat}{A:Mt}{l:List Int}(h:cw (EF cO) 1 w B A n l):0<(l.map cW).length->∃a,A=some a/\∀j v,(l.map cW)[j]?=some v->w.cell? (a.add j)=some v:=λh0=>by
 have hl:=h.1;rw[LO] at h0;obtain⟨b,o,bG,_,hc⟩:=h.2 ad;refine⟨_,bG,λj v bd=>?_⟩;rw[List.getElem?_map] at bd
 cases hx:l[j]? with
 | none=>rw[hx] at bd;cases bd
 | some x=>
  rw[hx] at bd;injection bd with bd;subst bd;obtain⟨cs,rfl,_,a4⟩:=hc j x hx;have:=a4 0 _ rfl;rw[Nat.mul_one,LW] at this;rw[show (⟨b,o,none⟩:Addr).add j=⟨b,o+j,none⟩ by unfold Addr.add;split<;>simp_all];exact this
def Jd(w:World)(f:al)(e:Ending)(ab:World):Prop:=∃IA i ic bw l lc,e=.returned (.agg #[.int .i64 f.proc,.int .i64 f.pc,.slice IA i ic,.slice bw l lc])/\(dh f).rep ab (fresh w ab) [.int .i64 f.proc,.int .i64 f.pc,.slice IA i ic,.slice bw l lc]/\Ext w ab
namespace CD
theorem fy(h:p:=by
 refine tf ?_;generalize hV:World.drew (World.alloc _ _)=V;obtain⟨h0,ac,ap,aV⟩:=iy hV;have hC:HZ W L l (W.heap.size+1+1) (W.heap.size) (W.heap.size+1) V:=⟨h0,by rw[<-h2];exact aV,by rw[<-h2];exact ac,ap,ad,ad,ad,ad⟩
 clear hV h0 ac ap aV;generalize W.heap.size+1+1=cP at hC ⊢;generalize W.heap.size+1=g2 at hC ⊢;generalize W.heap.size=bT at hC ⊢;exact key cP bT g2 _ hC
 ):p:=h
end CD
open CD in
theorem mframe(u:aA)(k:Int)(cn:cM)(is ls:List Int)(IA bw:Mt)(i ic l lc:Nat)(w:World)(p:UV)(hu:p.Ok w u)(h0:0<=k)(hp:u.procs[k.toNat]?=some cn)(hl:(is.length:Int)<=cn.locals)(bv:cn.locals<=200)(y:ls.length<=1000)
  (aX:Sl w (aq w) IA i (is.map D.i)) (bD:Sl w (aq w) bw l (ls.map D.i)) :
  Calls prog 57 #[.agg (p.val u),k,.slice IA i ic,.slice bw l lc] w (Jd w (di u k is ls)):=by
 obtain⟨GA,gn,gc,MA,mn,mc,PA,pn,pc⟩:=p;have bi:=hu.at_.p.1;rw[LO] at bi;have ce:=(List.getElem?_eq_some_iff.1 hp).1;obtain⟨pb,gU,cV,S,cT,b2,e,cZ,cD,cK,cp,cX,bx,bK,_,_⟩:=hu.at_.proc (k:=k.toNat) ad;simp only at e bi;subst e;rw[hp] at cD;injection cD with cD;subst cD;obtain⟨L,bJ⟩:=LP (a:=cn.locals) ad;rw[bJ] at bx;have c9:is.length=i:=by have:=aX.1;simpa using this
 have bE:ls.length=l:=by have:=bD.1;simpa using this
 have hlen:i<=L:=ad;have b8:L<=200:=ad;have cq:l<=1000:=ad;have cu:k<(pn:Int):=ad;have aJ:fb u k=L:=by unfold fb;rw[hp];simp[bJ]
 have b6:=az c9 bE aJ;have bt:=ag aX bD;have J:=λW=>run_mk cF .i64 .i64 L ad ad W;have N:=λW=>run_mk cF .i64 .i64 l ad ad W;have bg:pb<w:=cZ;clear hu bi ce cZ hp cK cp cX bK bJ c9 bE aJ aX bD hl bv y;dsimp only[UV.val];go_enter func57,ntmps57;go_upto_region 1 with(fail);generalize ba:World.alloc _ _=W;have aw:=h9 ba;have aQ:=gb ba;have cv:=fG ba;have dA:=(aw.cell (j:=gU+k.toNat*5+3) bg λh=>h).trans bx;have am:pb<W:=LL bg aw.size;have aj:=cv.lt;have ah:=ag aw cv;obtain⟨a0,ai,af⟩:=aQ.two;clear ba aw aQ cv bx bg;refine r0 (λ_=>False) [7,13] (.free 0 (.free 1 (.held 2 (.free 3 (.free 4 (.free 5 (.held 6 (.free 8 (.free 9 (.pick [7,10,12] (λi=>bif i == 7 then .pick [10,12] (λi=>bif i == 10 then .free 11 (.pick [12] (λ_=>.pick [13] (λ_=>.stop))) else .pick [10] (λ_=>.free 11 (.pick [13] (λ_=>.stop)))) else bif i == 10 then .pick [7,12] (λi=>bif i == 7 then .free 11 (.pick [12] (λ_=>.pick [13] (λ_=>.stop))) else .pick [7] (λ_=>.free 11 (.pick [13] (λ_=>.stop)))) else .pick [7,10] (λi=>bif i == 7 then .pick [10] (λ_=>.free 11 (.pick [13] (λ_=>.stop))) else .pick [7] (λ_=>.free 11 (.pick [13] (λ_=>.stop))))))))))))))) ?_
 iterate 2 refine tf ?_
 refine th ?_
 iterate 3 refine tf ?_
 refine th ?_
 iterate 2 refine tf ?_
 refine xr (P:=?P1) (ops:=?o1) (Q:=?q1) (R:=?r1) (tails:=?t1) (rest:=.pick [13] (λ_=>.stop)) (aa:=?aa) (C:=HZ W L l) (λkey=>?main) ?key
 case main=>
  refine IX ?_ ?_ ?_
  ·
   refine bR rfl (λK hK=>?_) rfl;go_simp;refine dX hK ?_;clear hK K;refine a2 ?_ ?_
   ·
    refine eu ?_;refine tf ?_;refine av ?_;refine eu ?_;generalize hV:World.drew (World.alloc _ _)=V;obtain⟨h0,ac,ap,aV⟩:=iy hV;have hC:HZ W L l (W.heap.size) (W.heap.size+1) (W.heap.size+1+1) V:=⟨h0,by rw[<-h2];exact ac,by rw[<-h2];exact ap,aV,ad,ad,ad,ad⟩
    clear hV h0 ac ap aV;generalize W.heap.size+1+1=cP at hC ⊢;generalize W.heap.size+1=g2 at hC ⊢;generalize W.heap.size=bT at hC ⊢;exact key bT g2 cP _ hC
   ·
    refine eu ?_;refine av ?_;refine eu ?_;refine tf ?_;generalize hV:World.drew (World.alloc _ _)=V;obtain⟨h0,ac,ap,aV⟩:=iy hV;have hC:HZ W L l (W.heap.size) (W.heap.size+1+1) (W.heap.size+1) V:=⟨h0,by rw[<-h2];exact ac,by rw[<-h2];exact aV,ap,ad,ad,ad,ad⟩
    clear hV h0 ac ap aV;generalize W.heap.size+1+1=cP at hC ⊢;generalize W.heap.size+1=g2 at hC ⊢;generalize W.heap.size=bT at hC ⊢;exact key bT cP g2 _ hC
  ·
   refine eu ?_;refine a2 ?_ ?_
   ·
    refine bR rfl (λK hK=>?_) rfl;go_simp;refine dX hK ?_;clear hK K;refine tf ?_;refine av ?_;refine eu ?_;generalize hV:World.drew (World.alloc _ _)=V;obtain⟨h0,ac,ap,aV⟩:=iy hV;have hC:HZ W L l (W.heap.size+1) (W.heap.size) (W.heap.size+1+1) V:=⟨h0,by rw[<-h2];exact ap,by rw[<-h2];exact ac,aV,ad,ad,ad,ad⟩
    clear hV h0 ac ap aV;generalize W.heap.size+1+1=cP at hC ⊢;generalize W.heap.size+1=g2 at hC ⊢;generalize W.heap.size=bT at hC ⊢;exact key g2 bT cP _ hC
   ·
    refine eu ?_;exact fQ
  ·
   refine eu ?_;refine a2 ?_ ?_
   ·
    refine bR rfl (λK hK=>?_) rfl;go_simp;refine dX hK ?_;clear hK K;refine av ?_;refine eu ?_;refine tf ?_;generalize hV:World.drew (World.alloc _ _)=V;obtain⟨h0,ac,ap,aV⟩:=iy hV;have hC:HZ W L l (W.heap.size+1) (W.heap.size+1+1) (W.heap.size) V:=⟨h0,by rw[<-h2];exact ap,by rw[<-h2];exact aV,ac,ad,ad,ad,ad⟩
    clear hV h0 ac ap aV;generalize W.heap.size+1+1=cP at hC ⊢;generalize W.heap.size+1=g2 at hC ⊢;generalize W.heap.size=bT at hC ⊢;exact key g2 cP bT _ hC
   ·
    refine eu ?_;refine av ?_;refine bR rfl (λK hK=>?_) rfl;go_simp;refine dX hK ?_;clear hK K;refine tf ?_;generalize hV:World.drew (World.alloc _ _)=V;obtain⟨h0,ac,ap,aV⟩:=iy hV;have hC:HZ W L l (W.heap.size+1+1) (W.heap.size+1) (W.heap.size) V:=⟨h0,by rw[<-h2];exact aV,by rw[<-h2];exact ap,ac,ad,ad,ad,ad⟩
    clear hV h0 ac ap aV;generalize W.heap.size+1+1=cP at hC ⊢;generalize W.heap.size+1=g2 at hC ⊢;generalize W.heap.size=bT at hC ⊢;exact key cP g2 bT _ hC
 intro g ct gc V hC;have bU:=ae hC;obtain⟨c0,cl,b1⟩:=hC.bc.two;clear hC a0 ai af J N dA;refine av ?_;refine bR rfl (λK hK=>?_) rfl;go_simp;refine dX hK ?_;clear hK K;refine ch ?_;generalize hX:World.setCell _ _ _=X;obtain⟨bp,b4⟩:=jG 0 [k,(0:Int),.slice (some ⟨g,0,none⟩) L L,.slice (some ⟨ct,0,none⟩) l l] bU.bc hX;have aQ:au X gc 50 #[k,(0:Int),.slice (some ⟨g,0,none⟩) L L,.slice (some ⟨ct,0,none⟩) l l]:=by simpa[jg] using bp
 have bG:=bU.ba.on b4 bU.ac;have bM:=bU.bb.on b4 bU.KJ;have bu:Ext W X:=Fr.low (M:=λb=>b=gc) (Fr.trans (Fr.mono bU.ext λ_ h=>h.elim) b4) λb O=>by have:=bU.lo;omega
 have aN:=bF bu bG bM aQ;obtain⟨d0,aK,aM⟩:=aQ.two;clear hX bp b4 aQ bG bM bu c0 cl b1;have bm:Ext w X:=ah.1.trans aN.1;have br:=ah.2.aj aN.1;have T:=(bt.1.on (Fr.ext bm)).ints;have m:=b6.1;have o:=b6.2.1;have ar:(is.map cW).length=Nat.min i L:=by rw[LO];simp only[Nat.min_def];split<;>omega
 have r:=T.HI;have H:(is.map cW).length<=(List.replicate L (Value.int .i64 0)).length:=by simp;omega
 have z:=cL aN.2.1 aN.2.2.1 aN.2.2.2 bm br;have f:=cL ar r H m o;clear bm br T ar r H m o;obtain⟨aT,F,bj,aC⟩:=r2 (P:=prog) 22 22 3 3 Tryz.underlying22 (by kernel_rfl) (dp:=some ⟨g,0,none⟩) (dCap:=L) (sp:=IA) (sCap:=ic) z.1 (is.map cW) f.1 (λh=>⟨rfl,f.2.1 h⟩) f.2.2.1 (by simp[Value.oneCell']);have aR:=z.2.2.1.on aC (Ne.symm bU.ac);have bc:=az bj aC aR;clear bj aC;obtain⟨e0,be,a6⟩:=aR.two;clear aR;have al:Ext w aT:=Fr.low (M:=λb=>b=g) (Fr.trans (Fr.mono z.2.2.2.1 λ_ h=>h.elim) bc.2.1) λb O=>by have:=bU.lo;have:=ah.1.size;omega
 have a5:=(bt.2.on (Fr.ext al)).ints;have s:=a5.HI;have bS:(ls.map cW).length=Nat.min l l:=by rw[LO];have:=f.2.2.2.2;simp only[Nat.min_def];split<;>omega
 have I:(ls.map cW).length<=(List.replicate l (Value.int .i64 0)).length:=by have:=f.2.2.2.2;simp;omega
 have bI:=z.2.1.on bc.2.1 (Ne.symm bU.ab);have cr:=cL bS s I bI al;clear al a5 s bS I bI;obtain⟨b7,G,bj,aC⟩:=r2 (P:=prog) 22 22 3 3 Tryz.underlying22 (by kernel_rfl) (dp:=some ⟨ct,0,none⟩) (dCap:=l) (sp:=bw) (sCap:=lc) cr.2.2.2.1 (ls.map cW) cr.1 (λh=>⟨rfl,cr.2.1 h⟩) cr.2.2.1 (by simp[Value.oneCell']);have aR:=bc.2.2.on aC (Ne.symm bU.KJ);have bQ:=az bj aC aR;clear bj aC;obtain⟨f0,dN,dQ⟩:=aR.two;clear aR;have cE:=(z.2.2.2.2.on bc.2.1 (ay bU.lo)).on bQ.2.1 (ay bU.lo);have dW:Ext w b7:=Fr.low (M:=λb=>b=ct) (Fr.trans (Fr.mono cr.2.2.2.2 λ_ h=>h.elim) bQ.2.1) λb O=>by have:=bU.lo;have:=ah.1.size;omega
 have a3:=ag cE dW;obtain⟨bl,aD,aP⟩:=cE.two;clear cE dW;go_wp2_with(fail);generalize hX:World.setCell _ _ _=Z;obtain⟨bs,a9,bf⟩:=bA (w:=w) [k,(0:Int),.slice (some ⟨g,0,none⟩) L L,.slice (some ⟨ct,0,none⟩) l l] (by rfl) a3.1 a3.2 ad hX;have bk:=ag a9 bf;clear hX a9 bf bl aD aP d0 aK aM e0 be a6 f0 dN dQ F G;obtain⟨bl,aD,aP⟩:=bs.two;refine Mn (v:=.agg #[k,(0:Int),.slice (some ⟨g,0,none⟩) L L,.slice (some ⟨ct,0,none⟩) l l]) (by simp[results,Tryz.results57,go_sem,bl]) rfl ?_;have bv:=bU.lo;have an:=ah.2.lt;have ab:=(bc.1.on bQ.2.1 bU.ab).on bk.2 ad;have ak:=bQ.1.on bk.2 ad;rw[uS] at ab ak;have U:=b6.2.2;have Y:=ab.lt;have cq:=ak.lt;have dY:di u k is ls=⟨k,0,is++List.replicate (L - is.length) 0,ls⟩:=by unfold di;rw[U]
 rw[dY];refine⟨some ⟨g,0,none⟩,L,L,some ⟨ct,0,none⟩,l,l,rfl,c7.2 ⟨_,_,_,_,_,_,rfl,LK _,LK _,ab.sl (by have:=b6.1;simp;omega) ⟨ad,Y⟩,?_⟩,bk.1⟩;have:=ak.sl (n:=l) (P:=fresh w Z) (by have:=b6.2.1;simp;omega) ⟨ad,cq⟩
 rwa [show l - ls.length=0 by have:=b6.2.1;omega,List.replicate_zero,Mg] at this
end Go.Proofs.YtpkfopfkdgkfkaaGreat
