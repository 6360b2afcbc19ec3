/- Part 20 of the proof. No condition of its own. -/
import Derived.Test.YtkhnkojkplbioaaGreatQ19
namespace Go.Proofs.YtkhnkojkplbioaaGreat
open Go.RowKit Go.Proofs.Tryz
set_option maxRecDepth 1000000
set_option maxHeartbeats 25600000
set_option linter.unusedVariables false
variable{t:Int}{fs:List ak}{g i ic j l lc n:Nat}{M:Nat->Prop}{IA S:L3}{p:Prop}{e:VE}{W Z:World}{f:ak}{u:ay}{x:az}
theorem Jk(U z:Value)(O hn hc cj n fc:Nat)(t:Int)(w:World)(h0:0<=t)(al:t<hn)(dp:O<w.heap.size)(ck:w.cell? ⟨O,t.toNat,none⟩=some (.slice (some ⟨cj,0,none⟩) (n+1) fc))(ap:n<=1000000) :
  Calls prog 55 #[.agg #[U,z,.slice (some ⟨O,0,none⟩) hn hc,.int .i64 0],.int .i64 t] w λe ab=>e=.returned (.pointer (some ⟨cj,n*4,none⟩))/\Ext w ab:=by
 have:=yf U z O 0 hn hc cj 0 n fc t w h0 al dp (by rw[LF];exact ck) ap
 rwa [LF] at this
theorem eh{s:ai}{a5:ak}(h:s.threads[t.toNat]?=some (fs++[f])):aT s t a5={s with threads:=s.threads.set t.toNat (fs++[a5])}:=by
 unfold aT;rw[lh h,kC]
theorem s8{w:World}{ag:Nat}{v:Value}(h:g≠ag\/i≠j):(w.setCell ⟨g,i,none⟩ v).cell? ⟨ag,j,none⟩=w.cell? ⟨ag,j,none⟩:=by
 apply World.cell?_setCell_other
 intro he;injection he with ac au;omega
structure dC(B:Nat)(w:World)(s:ai)(N:Nat)(q:SV)(xs:List Value)(F1 F2 bT b2:List Nat):Prop where
 st:ri w s q.GA q.gn q.gc q.TA q.tn q.tc q.HA q.hn q.hc xs F1 F2 bT b2
 o:aq w N 40 (q.val s)
 ne:N∉F1++(F2++(bT++b2))
 lo:∀b∈F1++(F2++(bT++b2)),B<=b/\b<w.heap.size
 go:B<=N
section
variable {B:Nat} {w ab:World} {s:ai} {N:Nat} {q:SV} {xs:List Value} {F1 F2 bT b2:List Nat}
theorem dC.aj(h:dC B w s N q xs F1 F2 bT b2)(he:Ext w ab):dC B ab s N q xs F1 F2 bT b2:=
 ⟨h.st.al λb O=>he.block b (h.lo b O).2 λh=>h,h.o.aj he,h.ne,λb O=>⟨(h.lo b O).1,Ll (h.lo b O).2 he.size⟩,h.go⟩
theorem dC.c8(h:dC B w s N q xs F1 F2 bT b2)(he:Fr M w ab)(hM:∀b,M b->b<B):dC B ab s N q xs F1 F2 bT b2:=
 ⟨h.st.al λb O=>he.block b (h.lo b O).2 λhm=>by have:=hM b hm;have:=(h.lo b O).1;omega,h.o.on he (λhm=>by have:=hM N hm;have:=h.go;omega),h.ne,λb O=>⟨(h.lo b O).1,Ll (h.lo b O).2 he.size⟩,h.go⟩
theorem dC.store(h:dC B w s N q xs F1 F2 bT b2){Q:ai}{p:Addr}{u:Value}(hp:p.block∈F1++(F2++(bT++b2)))(ch:ri (w.setCell p u) Q q.GA q.gn q.gc q.TA q.tn q.tc q.HA q.hn q.hc xs F1 F2 bT b2)(J:Q.fault=s.fault):dC B (w.setCell p u) Q N q xs F1 F2 bT b2:=by
 refine⟨ch,?_,h.ne,λb O=>⟨(h.lo b O).1,by simpa[World.setCell] using (h.lo b O).2⟩,h.go⟩;have:=h.o.JN (p:=p) (λhe=>h.ne (he▸hp)) u;unfold SV.val at this ⊢
 rwa [J]
theorem dC.ok(h:dC B w s N q xs F1 F2 bT b2):q.Is w (λb=>B<=b/\b<w.heap.size) s:=(show (⟨q.GA,q.gn,q.gc,q.TA,q.tn,q.tc,q.HA,q.hn,q.hc⟩:SV).Is w _ s from h.st.sv h.lo)
structure sE(B:Nat)(w:World)(s:ai)(N:Nat)(q:SV)(xs:List Value)(F1 F2 bT b2:List Nat)(t:Int)(fs:List ak)(f:ak)(cj:Nat)(IA:L3)(i ic:Nat)(S:L3)(l lc:Nat):Prop where
 oz:dC B w s N q xs F1 F2 bT b2
 lt:cj<w.heap.size
 c0:w.cell? ⟨cj,fs.length*4,none⟩=some (.int .i64 f.proc)
 c1:w.cell? ⟨cj,fs.length*4+1,none⟩=some (.int .i64 f.pc)
 c2:w.cell? ⟨cj,fs.length*4+2,none⟩=some (.slice IA i ic)
 c3:w.cell? ⟨cj,fs.length*4+3,none⟩=some (.slice S l lc)
 fz:∀j,w.frozen? ⟨cj,j,none⟩=false
 ne:cj≠N
 ge:B<=cj
 hd:∃O fc,q.HA=some ⟨O,0,none⟩/\t.toNat<q.hn/\O<w.heap.size/\O≠cj/\O≠N/\B<=O/\(∀j,w.frozen? ⟨O,j,none⟩=false)/\w.cell? ⟨O,t.toNat,none⟩=some (.slice (some ⟨cj,0,none⟩) (fs.length+1) fc)/\fs.length+1<=fc
 pc:∀v,dC B (w.setCell ⟨cj,fs.length*4+1,none⟩ (.int .i64 v)) {s with threads:=s.threads.set t.toNat (fs++[{f with pc:=v}])} N q xs F1 F2 bT b2
 ints:∀j v,j<i->∃I,IA=some ⟨I,0,none⟩/\I<w.heap.size/\w.frozen? ⟨I,j,none⟩=false/\(∃u,w.cell? ⟨I,j,none⟩=some u)/\I≠N/\B<=I/\dC B (w.setCell ⟨I,j,none⟩ (.int .i64 v)) {s with threads:=s.threads.set t.toNat (fs++[{f with ints:=f.ints.set j v}])} N q xs F1 F2 bT b2
theorem dC.Hw(bn:dC B w s N q xs F1 F2 bT b2)(bA:s.threads[t.toNat]?=some (fs++[f])){O cj fc:Nat}(mO:q.HA=some ⟨O,0,none⟩)
  (hc:w.cell? ⟨O,t.toNat,none⟩=some (.slice (some ⟨cj,0,none⟩) (fs.length+1) fc)) (c2:w.cell? ⟨cj,fs.length*4+2,none⟩=some (.slice IA i ic)) (c3:w.cell? ⟨cj,fs.length*4+3,none⟩=some (.slice S l lc)) :
  sE B w s N q xs F1 F2 bT b2 t fs f cj IA i ic S l lc:=by
 have cq:∀b,b∈b2->b∈F1++(F2++(bT++b2)):=λb O=>by simp[O]
 have bz:∀b,b∈bT->b∈F1++(F2++(bT++b2)):=λb O=>by simp[O]
 obtain⟨aT,bo,cH,F,o,cr,bH,aO,bP,d,m,cJ,k,aR,a,r,aB,aZ,g,d0,d1,d2,d3,h,e,n,c,_⟩:=bn.st.top bA;have e1:=mO.symm.trans d;injection e1 with e1;injection e1 with e1 _;subst e1;have e2:=hc.symm.trans aZ;injection e2 with e2;injection e2 with e2 _ e3;injection e2 with e2;injection e2 with e2 _;subst e2 e3;have a6:=c2.symm.trans d2;injection a6 with a6;injection a6 with a6 cu bB;subst a6 cu bB;have e7:=c3.symm.trans d3;injection e7 with e7;injection e7 with e7 e8 e9;subst e7 e8 e9;refine⟨bn,k,d0,d1,d2,d3,e,λhe=>bn.ne (he▸cq _ a),(bn.lo _ (cq _ a)).1,⟨O,fc,d,m,cJ,?_,λhe=>bn.ne (he▸bz _ aR),(bn.lo _ (bz _ aR)).1,h,aZ,g⟩,λv=>bn.store (cq _ a) (n v) rfl,λj v bi=>?_⟩
 .intro he;subst he;have nd:=bn.st.nd;have n1:=(List.nodup_append.1 nd).2.1;have n2:=(List.nodup_append.1 n1).2.1;exact(List.nodup_append.1 n2).2.2 O aR O a rfl
 .obtain⟨I,dm,cF,dL,T,b0,ch⟩:=c j v bi;exact⟨I,dm,cF,T,b0,λhe=>bn.ne (he▸cq _ dL),(bn.lo _ (cq _ dL)).1,bn.store (cq _ dL) ch rfl⟩
theorem dC.top(h:dC B w s N q xs F1 F2 bT b2){t:Int}{fs:List ak}{f:ak}(bA:s.threads[t.toNat]?=some (fs++[f]))(h0:0<=t)(ao:s.fault=0)(ap:fs.length<=1000000) :
  ∃cj IA i ic S l lc,i=f.ints.length/\l=f.au.length/\
   (∀ab,Ext w ab->Calls prog 55 #[.agg (q.val s),.int .i64 t] ab λe J=>e=.returned (.pointer (some ⟨cj,fs.length*4,none⟩))/\Ext ab J)/\
   ∀ab,Ext w ab->sE B ab s N q xs F1 F2 bT b2 t fs f cj IA i ic S l lc:=by
 obtain⟨O,cj,fc,IA,i,ic,S,l,lc,mO,bH,T,cg,aV,b1,an,hl,hc,aB,c0,c1,c2,c3,bI,a,db,hints,_⟩:=h.st.top bA;refine⟨cj,IA,i,ic,S,l,lc,an,hl,λab he=>?_,λab he=>?_⟩
 .have:=Jk (.slice q.GA q.gn q.gc) (.slice q.TA q.tn q.tc) O q.hn q.hc cj fs.length fc t ab h0 ad (Ll T he.size) ((he.cell T λh=>h).trans hc) ap;unfold SV.val;rw[mO,ao];exact this
 .exact(h.aj he).Hw bA mO ((he.cell T λh=>h).trans hc) ((he.cell cg λh=>h).trans c2) ((he.cell cg λh=>h).trans c3)
theorem sE.JA{cj:Nat}(h:sE B w s N q xs F1 F2 bT b2 t fs f cj IA i ic S l lc)(bA:s.threads[t.toNat]?=some (fs++[f]))(v:Int):
  sE B (w.setCell ⟨cj,fs.length*4+1,none⟩ (.int .i64 v)) {s with threads:=s.threads.set t.toNat (fs++[{f with pc:=v}])} N q xs F1 F2 bT b2 t fs {f with pc:=v} cj IA i ic S l lc:=by
 obtain⟨O,fc,mO,_,T,bf,_,_,_,hc,_⟩:=h.hd;have al:=(List.getElem?_eq_some_iff.1 bA).1;exact(h.pc v).Hw (by simp[al]) mO ((s8 (.inl (Ne.symm bf))).trans hc) ((s8 (.inr ad)).trans h.c2) ((s8 (.inr ad)).trans h.c3)
theorem dC.c7(h:dC B w s N q xs F1 F2 bT b2){j:Nat}(bi:j<q.gn):∃bL,q.GA=some ⟨bL,0,none⟩/\bL<w.heap.size/\w.frozen? ⟨bL,j,none⟩=false/\(∃u,w.cell? ⟨bL,j,none⟩=some u)/\bL≠N/\B<=bL/\
  ∀v,dC B (w.setCell ⟨bL,j,none⟩ (.int .i64 v)) {s with globals:=s.globals.set j v} N q xs F1 F2 bT b2:=by
 obtain⟨bL,hG,hl,J,hc,hm,ch⟩:=h.st.c7 bi;have de:bL∈F1++(F2++(bT++b2)):=by simp[hm]
 exact⟨bL,hG,hl,J,hc,λhe=>h.ne (he▸de),(h.lo _ de).1,λv=>h.store de (ch v) rfl⟩
end
structure jv(u:ay)(s:ai)(t:Int)(f:ak)(cn:cM)(x:az)(N:Nat):Prop where
 hU:tV u
 hS:aX u N s
 sm:Small s
 ht:de s t=some f
 hF:cc u f
 hp:u.procs[f.proc.toNat]?=some cn
 hx:cn.code[f.pc.toNat]?=some x
 ok:∃len:Nat,cn.code.length=len+1/\h7 (bC u) cn.locals cn.au len x
 nx:x.op≠8->f.pc+1<cn.code.length
 pc:0<=f.pc/\f.pc<=201
 il:x.ints.length<=200
 kl:x.places.length<=200
theorem jv.of{s:ai}{N:Nat}(hU:tV u)(hS:aX u N s)(hN:N<=100000)(ht:de s t=some f):∃cn x,jv u s t f cn x N/\cU u s t=some x:=by
 obtain⟨hF,_,_⟩:=hS.top ht;obtain⟨cn,x,hp,hx,ac,au,aY,bR,cI,a2,g,cP,a6⟩:=hU.I8 hF;have hc:=a6.code;obtain⟨c,dE,ca,_⟩:=hc;have hl:cn.code.length=c.length+1:=by rw[dE];simp
 exact⟨cn,x,⟨hU,hS,hS.small hU.ok hN,ht,hF,hp,hx,cI,cP,⟨bR,ad⟩,a2,g⟩,uG ht hp hx⟩
theorem jv.FV{s:ai}{cn:cM}{N:Nat}(h:jv u s t f cn x N)(he:gj (bC u) cn.locals e){w:World}{GA:L3}{gn:Nat}{c0 c1 c2 c3:Value}
  (a9:Sl w (av w) GA gn (s.globals.map .i)) (an:Sl w (av w) IA i (f.ints.map .i)) (ba:(bp e).rep w (av w) [c0,c1,c2,c3]):lR w GA IA gn i s.globals f.ints e [c0,c1,c2,c3]/\n8 s.globals f.ints e:=by
 obtain⟨bn,y,_⟩:=x7 h.hS h.hF h.hp he;have ac:=a9.1;have au:=an.1;rw[Lo] at ac au;exact⟨⟨a9.ints,an.ints,by rw[<-ac,<-au];exact bn,kD e _ ba⟩,y⟩
structure Kw(u:ay)(s:ai)(t:Int)(f:ak)(x:az)(r:Int×Int):Prop where
 bad:r.2≠0->bI u s t f x=({s with fault:=r.2},true)
 bz:r.2=0->x.op=6->r.1=0->bI u s t f x=(aT s t {f with pc:=x.target},true)
 bn:r.2=0->x.op=6->r.1≠0->bI u s t f x=(aT s t (next f),true)
 gl:r.2=0->x.op=1->x.c7=true->bI u s t f x=({aT s t (next f) with globals:=s.globals.set x.target.toNat r.1},true)
 lo:r.2=0->x.op=1->x.c7=false->bI u s t f x=(aT s t {next f with ints:=f.ints.set x.target.toNat r.1},true)
theorem Kl{s:ai}(he:x.expr=some e)(cA:x.op=1\/x.op=6):Kw u s t f x (ev s.globals f.ints e):=by
 have h0:bI u s t f x=(if (ev s.globals f.ints e).2≠0 then ({s with fault:=(ev s.globals f.ints e).2},true)
  else if x.op=6 then (aT s t (if (ev s.globals f.ints e).1=0 then {f with pc:=x.target} else next f),true)
  else if x.c7 then ({aT s t (next f) with globals:=s.globals.set x.target.toNat (ev s.globals f.ints e).1},true)
  else (aT s t {next f with ints:=f.ints.set x.target.toNat (ev s.globals f.ints e).1},true)):=by
  unfold bI;rw[if_pos cA,he];rfl
 generalize ev s.globals f.ints e=r at *;refine⟨λh=>?_,λh a2 bv=>?_,λh a2 bv=>?_,λh ac a9=>?_,λh ac a9=>?_⟩
 .rw[h0,if_pos h]
 .rw[h0,if_neg ad,if_pos a2,if_pos bv]
 .rw[h0,if_neg ad,if_pos a2,if_neg bv]
 .rw[h0,if_neg ad,if_neg ad,if_pos a9]
 .rw[h0,if_neg ad,if_neg ad,if_neg (by simp[a9])]
theorem jv.th{s:ai}{cn:cM}{N:Nat}(h:jv u s t f cn x N):s.fault=0/\0<=t/\t<s.threads.length/\∃fs,s.threads[t.toNat]?=some (fs++[f])/\fs.length<=1000000:=by
 obtain⟨h0,ac,fs,bA⟩:=gy h.ht;have:=(List.getElem?_eq_some_iff.1 bA).1;exact⟨h0,ac,ad,fs,bA,by have:=(h.sm.f _ (Ln bA)).1;simp at this;omega⟩
theorem gX{w:World}{B:Nat}{s Q:ai}{N:Nat}{q:SV}{xs:List Value}{F1 F2 bT b2:List Nat}(h:dC B W s N q xs F1 F2 bT b2)(J:Fr M W Z)(hM:∀b,M b->b<B)(aR:w.heap.size<=B)(aw:Ext w Z)(hs:s=Q):cV mW w Q true (.returned (.tuple #[.agg (q.val Q),.bool true])) Z:=by
 subst hs;exact⟨q,rfl,(h.c8 J hM).ok.mono λb O=>.inr ⟨ad,O.2⟩,aw⟩
theorem eB{w aU b6:World}{Q:ai}{b:Bool}{q:SV}(h:q.Is b6 (λk=>mW k\/(aU.heap.size<=k/\k<b6.heap.size)) Q)(J:Fr M b6 Z)(hM:∀b,M b->b<aU.heap.size)(aR:w.heap.size<=aU.heap.size)(aw:Ext w Z):cV mW w Q b (.returned (.tuple #[.agg (q.val Q),.bool b])) Z:=
 ⟨q,rfl,(h.al λk ap=>J.block k (ap.resolve_left λh=>h).2 λhm=>by have:=hM k hm;have:=(ap.resolve_left λh=>h).1;omega).mono λk ap=>.inr ⟨by have:=(ap.resolve_left λh=>h).1;omega,by have:=(ap.resolve_left λh=>h).2;have:=J.size;omega⟩,aw⟩
namespace CY
theorem dE(h:p:=by
 go_upto_region 13 with(fail);generalize hX:World.setCell _ _ _=Y;have b8:dC aU.heap.size Y {s with threads:=(s.threads.set t.toNat (fs++[next f])).set t.toNat (fs++[{next f with ints:=(next f).ints.set x.target.toNat r}])} b6.heap.size ⟨bF,bW,a5,a1,tn,L,bf,hn,aZ⟩ xs F1 F2 bT b2:=hX▸cX.o;have ar:=cO hX;have bq:=bi;have bt:Ext w Y:=Fr.low (M:=λb=>b=I) (Fr.trans (Fr.mono (ah.1.trans aR.2.1) λ_ h=>h.elim) ar) λb O=>by have:=ah.1.size;omega
 have k:=aR.2.2.on ar (aD ah.2.2.2.1.lt);have bu:=aE b8 k bt;clear e0 a6 aP bl aA aO;obtain⟨e0,a6,aP⟩:=b8.o.two;obtain⟨bl,aA,aO⟩:=k.two;clear hX b8 ar bt k;go_wp2_with(fail);generalize hX:World.setCell _ _ _=Z;obtain⟨bk,bd,bg⟩:=bw (w:=w) [.slice bF bW a5,.slice a1 tn L,.slice bf hn aZ,.int .i64 s.fault] (by rfl) bu.2.1 bu.2.2 ad hX;have bh:=ag bd bg;clear hX bd bg bl aA aO e0 a6 aP;obtain⟨bl,aA,aO⟩:=bk.two;refine LU (v:=.tuple #[.agg #[.slice bF bW a5,.slice a1 tn L,.slice bf hn aZ,.int .i64 s.fault],.bool true]) (by simp[results,Tryz.results54,go_sem,bl]) rfl ?_;rw[bX.o];show cV mW w (aT s t {next f with ints:=f.ints.set x.target.toNat r}) true _ _
 exact gX (Q:=aT s t {next f with ints:=f.ints.set x.target.toNat r}) (q:=⟨bF,bW,a5,a1,tn,L,bf,hn,aZ⟩) bu.1 bh.2.drew (λb O=>by have:=ah.2.2.2.1.lt;omega) (aD ah.1.size) bh.1.drew (by rw[eh bZ.2.2.1,List.set_set];rfl)
 ):p:=h
theorem Bb(h:p:=by
 have dr:=Kl (u:=u) (s:=s) (t:=t) (f:=f) hex cA;have c9:bW=s.globals.length:=by have:=hs.at_.g.1;simpa using this.symm
 have ci:=h.hS.c7;have db:=h.pc;have bH:=h.nx;have aQ:=cJ h aK hex cF aV;have bZ:=cH ao di bA cg c9 ci;have b9:=ae dr;have dD:=bJ db bH hlen dx;have ce:=aE hs bG hT;clear ao bA c9 ci hlen db bH an hex aK cF aV cg cy dx di h dr hs bG hT;dsimp only[SV.val,IV.val];go_enter func54,ntmps54;go_upto_region 1 with(fail);generalize be:World.alloc _ _=W;have aw:=lC be;have bD:=jw be;have cf:=h1 be;have cB:=jx be;have ah:=cH aw bD cf cB (ce.1.on aw) (ce.2.1.on aw);have aa:=ae (ce.2.2.on aw);obtain⟨a0,aj,af⟩:=bD.two;obtain⟨a7,am,aF⟩:=cf.two;clear be aw bD cf cB ce;refine eC (λ_=>False) [(0,3),(1,0),(2,3),(3,0),(4,0),(5,3),(6,1),(7,3),(8,3),(9,0),(10,2),(11,3),(12,3),(13,3),(14,3),(15,3)] ?_;refine pf ?_;refine ph ?_;refine pf ?_
 iterate 2 refine ph ?_
 refine pf ?_;refine aG rfl (λK hK=>?_);go_simp;refine(lj (aa.on (Fr.refl _ W).drew) _ _ _).mono ?_;rintro e aS ⟨rfl,aN⟩;have ab:=ae (aa.on (Fr.aF aN));have bx:=ae (Fr.aF aN);have cx:=ab.lf;have c2:=ab.c2;refine dq hK (aN) ?_;clear hK K;clear aN
 iterate 2 refine pf ?_
 refine KP ?_;refine ax rfl (λK hK=>?_);go_simp;have cd:(bp ex).rep aS (av aS) [.int .i64 eo,.int .i64 en,.string es,.slice EA em ec]:=by
  have:=(ah.2.2.2.2.2.on bx.o).expr;rw[aQ.2.2.1] at this;exact this
 refine(pC ex aS bU IA bW i bE ic s.globals f.ints _ _ _ _ (aQ.1.FV aQ.2.1 (ah.2.2.2.2.1.on bx.o).at_.g ab.ints cd).1).mono ?_;rintro e aU ⟨rfl,bj⟩;have aX:=ae (bx.trans (Fr.of bj));generalize ev s.globals f.ints ex=R at *;obtain⟨r,z⟩:=R;clear cd bj a0 aj af a7 am aF c2 cx;obtain⟨a0,aj,af⟩:=(ah.2.1.aj aX.o).two;have ck:=aX.size;refine dP hK ?_;clear hK K
 iterate 5 refine pf ?_
 refine aC ?_;by_cases bv:z=0
 case neg=>
  have q5:(z != 0)=true:=by simpa using bv
  have bX:=ae (b9.bad bv);clear bv b9 aa ab;go_wp2_with(fail);refine(lg s ⟨bU,bW,bE,TA,tn,tc,some ⟨O,bn,none⟩,hn,hc⟩ z aU (ah.2.2.2.2.1.on aX.o) aQ.1.sm).mono ?_;rintro e b6 ⟨⟨bF,cp,a5,a1,m,L,bf,ct,aZ⟩,rfl,bM,a4⟩;have bQ:=ae bM;have cz:=(ah.2.2.2.1.aj aX.o).aj a4;have a3:=ag cz ((ah.1.trans aX.o).trans a4);obtain⟨bl,aA,aO⟩:=cz.two;clear bM a4 cz a0 aj af;go_wp2_with(fail);generalize hX:World.setCell _ _ _=Z;obtain⟨bk,bd,bg⟩:=bw (w:=w) [.slice bF cp a5,.slice a1 m L,.slice bf ct aZ,.int .i64 z] (by rfl) a3.1 a3.2 ad hX;have bh:=ag bd bg;clear hX bd bg bl aA aO;obtain⟨bl,aA,aO⟩:=bk.two;refine LU (v:=.tuple #[.agg #[.slice bF cp a5,.slice a1 m L,.slice bf ct aZ,.int .i64 z],.bool true]) (by simp[results,Tryz.results54,go_sem,bl]) rfl ?_;rw[bX.o];show cV mW w {s with fault:=z} true _ _
  exact eB (Q:={s with fault:=z}) (q:=⟨bF,cp,a5,a1,m,L,bf,ct,aZ⟩) bQ.o bh.2 (λb O=>by have:=ah.2.2.2.1.lt;omega) (aD ah.1.size) bh.1
 have q5:(z != 0)=false:=by simpa using bv
 have bb:=ae bv;clear bv aa ab;go_wp2_with(fail);refine(fK s bU TA (some ⟨O,bn,none⟩) bW bE tn tc hn hc aU (ah.2.2.2.2.1.on aX.o).at_ aQ.1.sm).mono ?_;rintro e b6 ⟨bF,a5,a1,L,bf,aZ,xs,F1,F2,bT,b2,rfl,ch,bB,a4⟩;have bP:=aE ch bB a4;clear ch bB a4 a0 aj af;go_upto_region 5 with(fail);generalize hV:World.alloc _ _=V;have bm:=aW hV;have b7:=aI hV;have dF:=bP.2.2.size;have hOut:dC aU.heap.size V s b6.heap.size ⟨bF,bW,a5,a1,tn,L,bf,hn,aZ⟩ xs F1 F2 bT b2:=
  ⟨bP.1.al λb O=>bm.block b (bP.2.1 b O).2 λh=>h,b7,λO=>by have:=(bP.2.1 _ O).2;omega,λb O=>⟨(bP.2.1 b O).1,by have:=(bP.2.1 b O).2;have:=bm.size;omega⟩,dF⟩
 have T:Ext W V:=(aX.trans bP.2.2).trans bm;obtain⟨bV,c0,i2,c6,dh,cP,dl,c3,bc,aH,J⟩:=hOut.top bZ.2.2.1 bZ.2.1 bZ.1 bZ.2.2.2.1;have ce:=cJ hOut aH J T c3;obtain⟨e0,a6,aP⟩:=hOut.o.two;clear hV bm b7 hOut T aH J c3 bc;go_wp2_with(fail);refine(ce.2.1 V LW).mono ?_;rintro e cK ⟨rfl,co⟩;have P:=ae (ce.2.2.1 cK co);have cc:=ae (ce.2.2.2.1.trans co);clear e0 a6 aP co;have cb:=P.c1;have g2:=P.fz;have cT:=P.lt;have da:=dD.1;go_upto_region 8 with(fail);generalize hX:World.setCell _ _ _=X;have bO:sE aU.heap.size X {s with threads:=s.threads.set t.toNat (fs++[next f])} b6.heap.size ⟨bF,bW,a5,a1,tn,L,bf,hn,aZ⟩ xs F1 F2 bT b2 t fs (next f) bV c0 i2 c6 dh cP dl:=hX▸P.JA bZ.2.2.1 (f.pc+1);have b5:=cO hX;have dG:=P.ge;have bs:Ext W X:=Fr.low (M:=λb=>b=bV) (Fr.trans (Fr.mono cc.o λ_ h=>h.elim) b5) λb O=>ad;have br:=ah.2.2.1.aj bs;have bo:=ah.2.2.2.1.aj bs;have aR:=aE bO bs bo;obtain⟨a7,am,aF⟩:=br.two;obtain⟨e0,a6,aP⟩:=bO.oz.o.two;obtain⟨bl,aA,aO⟩:=bo.two;have cv:=bO.c1;have bS:=bO.c2;have cW:=bO.fz;have H:=bO.lt;have cm:=bO.ne;clear hX bO b5 bs br bo cb g2 cT P;by_cases a2:x.op=6
 .have dk:(x.op == 6)=true:=by simpa using a2
  by_cases ba:r=0
  .have q7:(r == 0)=true:=by simpa using ba
   have bX:=ae (b9.bz bb.o a2 ba);clear a2 ba b9;go_upto_region 13 with(fail);generalize hX:World.setCell _ _ _=Y;have b8:dC aU.heap.size Y {s with threads:=(s.threads.set t.toNat (fs++[next f])).set t.toNat (fs++[{next f with pc:=x.target}])} b6.heap.size ⟨bF,bW,a5,a1,tn,L,bf,hn,aZ⟩ xs F1 F2 bT b2:=hX▸aR.1.pc x.target;have ar:=cO hX;have bt:Ext w Y:=Fr.low (M:=λb=>b=bV) (Fr.trans (Fr.mono (ah.1.trans aR.2.1) λ_ h=>h.elim) ar) λb O=>by have:=ah.1.size;omega
   have k:=aR.2.2.on ar (aD ah.2.2.2.1.lt);have bu:=aE b8 k bt;clear e0 a6 aP bl aA aO;obtain⟨e0,a6,aP⟩:=b8.o.two;obtain⟨bl,aA,aO⟩:=k.two;clear hX b8 ar bt k;go_wp2_with(fail);generalize hX:World.setCell _ _ _=Z;obtain⟨bk,bd,bg⟩:=bw (w:=w) [.slice bF bW a5,.slice a1 tn L,.slice bf hn aZ,.int .i64 s.fault] (by rfl) bu.2.1 bu.2.2 ad hX;have bh:=ag bd bg;clear hX bd bg bl aA aO e0 a6 aP;obtain⟨bl,aA,aO⟩:=bk.two;refine LU (v:=.tuple #[.agg #[.slice bF bW a5,.slice a1 tn L,.slice bf hn aZ,.int .i64 s.fault],.bool true]) (by simp[results,Tryz.results54,go_sem,bl]) rfl ?_;rw[bX.o];show cV mW w (aT s t {f with pc:=x.target}) true _ _
   exact gX (Q:=aT s t {f with pc:=x.target}) (q:=⟨bF,bW,a5,a1,tn,L,bf,hn,aZ⟩) bu.1 bh.2 (λb O=>by have:=ah.2.2.2.1.lt;omega) (aD ah.1.size) bh.1 (by rw[eh bZ.2.2.1,List.set_set];rfl)
  .have q7:(r == 0)=false:=by simpa using ba
   have bX:=ae (b9.bn bb.o a2 ba);clear a2 ba b9;have bu:=aE aR.1.oz aR.2.2 (ah.1.trans aR.2.1);go_wp2_with(fail);generalize hX:World.setCell _ _ _=Z;obtain⟨bk,bd,bg⟩:=bw (w:=w) [.slice bF bW a5,.slice a1 tn L,.slice bf hn aZ,.int .i64 s.fault] (by rfl) bu.2.1 bu.2.2 ad hX;have bh:=ag bd bg;clear hX bd bg bl aA aO e0 a6 aP;obtain⟨bl,aA,aO⟩:=bk.two;refine LU (v:=.tuple #[.agg #[.slice bF bW a5,.slice a1 tn L,.slice bf hn aZ,.int .i64 s.fault],.bool true]) (by simp[results,Tryz.results54,go_sem,bl]) rfl ?_;rw[bX.o];show cV mW w (aT s t (next f)) true _ _
   exact gX (Q:=aT s t (next f)) (q:=⟨bF,bW,a5,a1,tn,L,bf,hn,aZ⟩) bu.1 bh.2 (λb O=>by have:=ah.2.2.2.1.lt;omega) (aD ah.1.size) bh.1 (by rw[eh bZ.2.2.1])
 .have ac:x.op=1:=ad;have dk:(x.op == 6)=false:=by simpa using a2
  cases a9:x.c7 with
  | true=>
   have bX:=ae (b9.gl bb.o ac a9);rw[a9] at a7;have cu:=aQ.2.2.2.1 ac a9;have G:=bZ.2.2.2.2.1;have bK:=bZ.2.2.2.2.2;have cR:x.target<(bW:Int):=ad;have U:=dD.2.2.2;obtain⟨bL,y,de,cC,⟨bz,cq⟩,cZ,bi,ap⟩:=aR.1.oz.c7 (j:=x.target.toNat) (by show x.target.toNat<bW;omega);simp only at y;subst y;have cX:=ae (ap r);clear a2 ac b9 cu G bK ap;go_upto_region 13 with(fail);generalize hX:World.setCell _ _ _=Y;have b8:dC aU.heap.size Y {s with threads:=s.threads.set t.toNat (fs++[next f]),globals:=s.globals.set x.target.toNat r} b6.heap.size ⟨some ⟨bL,0,none⟩,bW,a5,a1,tn,L,bf,hn,aZ⟩ xs F1 F2 bT b2:=hX▸cX.o;have ar:=cO hX;have dR:=bi;have bt:Ext w Y:=Fr.low (M:=λb=>b=bL) (Fr.trans (Fr.mono (ah.1.trans aR.2.1) λ_ h=>h.elim) ar) λb O=>by have:=ah.1.size;omega
   have k:=aR.2.2.on ar (aD ah.2.2.2.1.lt);have bu:=aE b8 k bt;clear e0 a6 aP bl aA aO;obtain⟨e0,a6,aP⟩:=b8.o.two;obtain⟨bl,aA,aO⟩:=k.two;clear hX b8 ar bt k;go_wp2_with(fail);generalize hX:World.setCell _ _ _=Z;obtain⟨bk,bd,bg⟩:=bw (w:=w) [.slice (some ⟨bL,0,none⟩) bW a5,.slice a1 tn L,.slice bf hn aZ,.int .i64 s.fault] (by rfl) bu.2.1 bu.2.2 ad hX;have bh:=ag bd bg;clear hX bd bg bl aA aO e0 a6 aP;obtain⟨bl,aA,aO⟩:=bk.two;refine LU (v:=.tuple #[.agg #[.slice (some ⟨bL,0,none⟩) bW a5,.slice a1 tn L,.slice bf hn aZ,.int .i64 s.fault],.bool true]) (by simp[results,Tryz.results54,go_sem,bl]) rfl ?_;rw[bX.o];show cV mW w ({aT s t (next f) with globals:=s.globals.set x.target.toNat r}) true _ _
   exact gX (Q:={aT s t (next f) with globals:=s.globals.set x.target.toNat r}) (q:=⟨some ⟨bL,0,none⟩,bW,a5,a1,tn,L,bf,hn,aZ⟩) bu.1 bh.2 (λb O=>by have:=ah.2.2.2.1.lt;omega) (aD ah.1.size) bh.1 (by rw[eh bZ.2.2.1])
  | false=>
   have bX:=ae (b9.lo bb.o ac a9);rw[a9] at a7;have al:=aQ.2.2.2.2 ac a9;have c3:=ce.2.2.2.2;have cR:x.target<(i2:Int):=ad;have U:=dD.2.2.2;obtain⟨I,dm,de,cC,⟨bz,cq⟩,cZ,bi,hints⟩:=aR.1.ints x.target.toNat r ad;subst dm;have cX:=ae hints;clear a2 ac b9 al c3 hints;go_upto_region 7 with(fail);exact BL
 ):p:=h
end CY
open CY in
theorem wO(u:ay)(s:ai)(t:Int)(f:ak)(cn:cM)(x:az)(N:Nat)(w:World)(q:SV)(v:IV)(h:jv u s t f cn x N)(cA:x.op=1\/x.op=6)(hs:q.Ok w s)(bG:v.Ok w x) :
  Calls prog 54 #[.agg (q.val s),.int .i64 t,.agg (v.val x)] w (cV mW w (bI u s t f x).1 (bI u s t f x).2):=by
 obtain⟨ao,di,cy,fs,bA,cg⟩:=h.th;obtain⟨bU,bW,bE,TA,tn,tc,HA,hn,hc⟩:=q;obtain⟨eo,en,es,EA,em,ec,QA,qm,qc,dg,j,dc,KA,dj,kc⟩:=v;obtain⟨O,bn,cj,cY,n,fc,IA,i,ic,S,l,lc,e,hT⟩:=hs.at_.top h.sm h.ht;simp only at e;subst e;exact Ba
section
variable {P:Program} {ops:Array Oper} {Q:Exit->Act->World->Prop} {R:World->World->Prop} {tails:List Nat}
theorem xr{rest:PT}{aa:Nat->Nat->Nat->Act}{C:Nat->Nat->Nat->World->Prop}{G:Prop}(h:(∀x y z V,C x y z V->cR P ops Q R tails rest (aa x y z) V)->G)(key:∀x y z V,C x y z V->cR P ops Q R tails rest (aa x y z) V):G:=h key
end
section
variable {P:Program} {ops:Array Oper} {Q:Exit->Act->World->Prop} {R:World->World->Prop} {tails:List Nat}
theorem Iv{k:Nat}{f:Nat->PT}{a:Act}{w:World}(h:oI P ops Q R tails i (f i) a w)(au:oI P ops Q R tails j (f j) a w)(aY:oI P ops Q R tails k (f k) a w):cR P ops Q R tails (.pick [i,j,k] f) a w:=λm hm=>by
 simp only[LC,List.not_mem_nil,or_false] at hm;rcases hm with rfl|rfl|rfl
 .exact h
 .exact au
 .exact aY
end
theorem Jc(n:Nat):madeCells #[.int .i64 0] (n*1)=(List.replicate n (Value.int .i64 0)).toArray:=by
 apply Array.toList_inj.1
 rw[r6 (f:=cP) (x:=0) (sz:=1) rfl rfl ad n,uB,List.map_replicate]
theorem vl(is:List Int)(n:Nat):splice (List.replicate n (Value.int .i64 0)) 0 (is.map df)=(is++List.replicate (n - is.length) 0).map df:=by
 unfold splice;simp[List.map_replicate]
theorem aq.sl{w:World}{l:List Int}(h:aq w g 3 (l.map df).toArray)(hn:l.length=n){P:Nat->Prop}(a1:P g):Sl w P (some ⟨g,0,none⟩) n (l.map D.i):=by
 refine⟨by simpa using hn,λ_=>⟨g,0,l.map df,rfl,a1,cx l,λj u hu=>?_⟩⟩;rw[LF,h.cell];simpa using hu
structure HC(W:World)(L l:Nat)(a b c:Nat)(V:World):Prop where
 ext:Ext W V
 ba:aq V a 3 (List.replicate L (Value.int .i64 0)).toArray
 bb:aq V b 3 (List.replicate l (Value.int .i64 0)).toArray
 bc:aq V c 72 #[.int .i64 0,.int .i64 0,.slice none 0 0,.slice none 0 0]
 ab:a≠b
 ac:a≠c
 Kj:b≠c
 lo:W.heap.size<=a/\W.heap.size<=b/\W.heap.size<=c
theorem hW(n:Nat):madeCells #[.int .i64 0] n=(List.replicate n (Value.int .i64 0)).toArray:=by have:=Jc n;rwa [Nat.mul_one] at this
theorem iv{V:World}{b ty c:TypeId}{j d a:Array Value}(hV:(((W.alloc (.cells j b)).alloc (.cells d ty)).alloc (.cells a c)).drew=V):Ext W V/\aq V W.heap.size b j/\aq V (W.heap.size+1) ty d/\aq V (W.heap.size+1+1) c a:=by
 subst hV;exact⟨(((LW.alloc _).alloc _).alloc _).drew,((LX).alloc _).alloc _,(aq.gC _ _ _ (by simp)).alloc _,aq.gC _ _ _ (by simp)⟩
theorem si{P:Program}{w:World}(e f ty elem:TypeId)(hu:P.underlying e=some (.slice elem))(bI:(P.info? elem).map (·.size)=some 1)
  {dp sp:L3} {c dCap d sCap:Nat} {g:Nat} {cur:List Value} {t:TypeId} (a9:aq w g t cur.toArray) (cs:List Value) (hn:cs.length=Nat.min d c)
  (l:0<cs.length->dp=some ⟨g,0,none⟩/\∃a,sp=some a/\∀j v,cs[j]?=some v->w.cell? (a.add j)=some v)
  (i:cs.length<=cur.length) (ac:∀v∈cs,v.oneCell'=true) :
  ∃ab,(Builtin.copy_ #[e,f] ty #[.slice dp c dCap,.slice sp d sCap]).run P w=.ok (goInt cs.length) ab/\aq ab g t (splice cur 0 cs).toArray/\Fr (λb=>b=g) w ab:=by
 by_cases h0:cs.length=0
 .obtain rfl:cs=[]:=List.eq_nil_of_length_eq_zero h0;exact⟨w,run_copy_none w e f ty elem dp sp c dCap d sCap hu bI (by simpa using hn.symm),by simpa[splice] using a9,LW⟩
 .obtain⟨rfl,a,rfl,ay⟩:=l ad;exact⟨_,_root_.Go.run_copy_row (P:=P) w e f ty elem g 0 c dCap a d sCap cur.toArray t cs hu bI a9 hn ay (by simpa using i) ac,(show _=_ by simpa[splice] using setRow_heap w g _ _ t _ a9),⟨rfl,rfl,rfl,by simp[World.setRow],λk ap bf=>setRow_other w g k _ bf⟩⟩
theorem cp.Hk{w:World}{B:Nat}{A:L3}{l:List Int}(h:cp (EF cP) 1 w B A n l):0<(l.map df).length->∃a,A=some a/\∀j v,(l.map df)[j]?=some v->w.cell? (a.add j)=some v:=λh0=>by
 have hl:=h.1;rw[Lo] at h0;obtain⟨b,o,aX,_,hc⟩:=h.2 ad;refine⟨_,aX,λj v bi=>?_⟩;rw[List.getElem?_map] at bi
 cases hx:l[j]? with
 | none=>rw[hx] at bi;cases bi
 | some x=>
  rw[hx] at bi;injection bi with bi;subst bi;obtain⟨cs,rfl,_,Z⟩:=hc j x hx;have:=Z 0 _ rfl;rw[Nat.mul_one,Lu] at this;rw[show (⟨b,o,none⟩:Addr).add j=⟨b,o+j,none⟩ by unfold Addr.add;split<;>simp_all];exact this
def IP(w:World)(f:ak)(e:Ending)(ab:World):Prop:=∃IA i ic S l lc,e=.returned (.agg #[.int .i64 f.proc,.int .i64 f.pc,.slice IA i ic,.slice S l lc])/\(ew f).rep ab (fresh w ab) [.int .i64 f.proc,.int .i64 f.pc,.slice IA i ic,.slice S l lc]/\Ext w ab
namespace CZ
theorem eU(h:p:=by
 refine tf ?_;generalize hV:World.drew (World.alloc _ _)=V;obtain⟨h0,ac,au,aY⟩:=iv hV;have hC:HC W L l (W.heap.size+1+1) (W.heap.size) (W.heap.size+1) V:=⟨h0,by rw[<-hW];exact aY,by rw[<-hW];exact ac,au,ad,ad,ad,ad⟩
 clear hV h0 ac au aY;generalize W.heap.size+1+1=cT at hC ⊢;generalize W.heap.size+1=g2 at hC ⊢;generalize W.heap.size=cb at hC ⊢;exact key cT cb g2 _ hC
 ):p:=h
end CZ
open CZ in
theorem mframe(u:ay)(k:Int)(cn:cM)(is ls:List Int)(IA S:L3)(i ic l lc:Nat)(w:World)(p:UV)(hu:p.Ok w u)(h0:0<=k)(hp:u.procs[k.toNat]?=some cn)(hl:(is.length:Int)<=cn.locals)(bB:cn.locals<=200)(y:ls.length<=1000)
  (an:Sl w (av w) IA i (is.map D.i)) (bU:Sl w (av w) S l (ls.map D.i)) :
  Calls prog 49 #[.agg (p.val u),.int .i64 k,.slice IA i ic,.slice S l lc] w (IP w (cY u k is ls)):=by
 obtain⟨GA,gn,gc,MA,mn,mc,PA,pn,pc⟩:=p;have bp:=hu.at_.p.1;rw[Lo] at bp;have cd:=(List.getElem?_eq_some_iff.1 hp).1;obtain⟨pb,gP,dn,bz,cp,b3,e,eQ,cL,b2,cG,ch,bA,b7,_,_⟩:=hu.at_.proc (k:=k.toNat) ad;simp only at e bp;subst e;rw[hp] at cL;injection cL with cL;subst cL;obtain⟨L,aG⟩:=Lp (a:=cn.locals) ad;rw[aG] at bA;have cF:is.length=i:=by have:=an.1;simpa using this
 have bM:ls.length=l:=by have:=bU.1;simpa using this
 have hlen:i<=L:=ad;have ca:L<=200:=ad;have a8:l<=1000:=ad;have b0:k<(pn:Int):=ad;have bK:eY u k=L:=by unfold eY;rw[hp];simp[aG]
 have b8:=aE cF bM bK;have bq:=ag an bU;have J:=λW=>run_mk dh .i64 .i64 L ad ad W;have N:=λW=>run_mk dh .i64 .i64 l ad ad W;have bF:pb<w.heap.size:=eQ;clear hu bp cd eQ hp b2 cG ch b7 aG cF bM bK an bU hl bB y;dsimp only[UV.val];go_enter func49,ntmps49;go_upto_region 1 with(fail);generalize be:World.alloc _ _=W;have aw:=iS be;have aR:=gG be;have cB:=gf be;have dz:=(aw.cell (j:=gP+k.toNat*5+3) bF λh=>h).trans bA;have ax:pb<W.heap.size:=Ll bF aw.size;have am:=cB.lt;have ah:=ag aw cB;obtain⟨a0,aj,af⟩:=aR.two;clear be aw aR cB bA bF;refine rC (λ_=>False) [7,13] (.free 0 (.free 1 (.held 2 (.free 3 (.free 4 (.free 5 (.held 6 (.free 8 (.free 9 (.pick [7,10,12] (λi=>bif i == 7 then .pick [10,12] (λi=>bif i == 10 then .free 11 (.pick [12] (λ_=>.pick [13] (λ_=>.stop))) else .pick [10] (λ_=>.free 11 (.pick [13] (λ_=>.stop)))) else bif i == 10 then .pick [7,12] (λi=>bif i == 7 then .free 11 (.pick [12] (λ_=>.pick [13] (λ_=>.stop))) else .pick [7] (λ_=>.free 11 (.pick [13] (λ_=>.stop)))) else .pick [7,10] (λi=>bif i == 7 then .pick [10] (λ_=>.free 11 (.pick [13] (λ_=>.stop))) else .pick [7] (λ_=>.free 11 (.pick [13] (λ_=>.stop))))))))))))))) ?_
 iterate 2 refine tf ?_
 refine th ?_
 iterate 3 refine tf ?_
 refine th ?_
 iterate 2 refine tf ?_
 refine xr (P:=?P1) (ops:=?o1) (Q:=?q1) (R:=?r1) (tails:=?t1) (rest:=.pick [13] (λ_=>.stop)) (aa:=?aa) (C:=HC W L l) (λkey=>?main) ?key
 case main=>
  refine Iv ?_ ?_ ?_
  ·
   refine bQ rfl (λK hK=>?_) rfl;go_simp;refine dP hK ?_;clear hK K;refine a2 ?_ ?_
   ·
    refine dT ?_;refine tf ?_;refine ao ?_;refine dT ?_;generalize hV:World.drew (World.alloc _ _)=V;obtain⟨h0,ac,au,aY⟩:=iv hV;have hC:HC W L l (W.heap.size) (W.heap.size+1) (W.heap.size+1+1) V:=⟨h0,by rw[<-hW];exact ac,by rw[<-hW];exact au,aY,ad,ad,ad,ad⟩
    clear hV h0 ac au aY;generalize W.heap.size+1+1=cT at hC ⊢;generalize W.heap.size+1=g2 at hC ⊢;generalize W.heap.size=cb at hC ⊢;exact key cb g2 cT _ hC
   ·
    refine dT ?_;refine ao ?_;refine dT ?_;refine tf ?_;generalize hV:World.drew (World.alloc _ _)=V;obtain⟨h0,ac,au,aY⟩:=iv hV;have hC:HC W L l (W.heap.size) (W.heap.size+1+1) (W.heap.size+1) V:=⟨h0,by rw[<-hW];exact ac,by rw[<-hW];exact aY,au,ad,ad,ad,ad⟩
    clear hV h0 ac au aY;generalize W.heap.size+1+1=cT at hC ⊢;generalize W.heap.size+1=g2 at hC ⊢;generalize W.heap.size=cb at hC ⊢;exact key cb cT g2 _ hC
  ·
   refine dT ?_;refine a2 ?_ ?_
   ·
    refine bQ rfl (λK hK=>?_) rfl;go_simp;refine dP hK ?_;clear hK K;refine tf ?_;refine ao ?_;refine dT ?_;generalize hV:World.drew (World.alloc _ _)=V;obtain⟨h0,ac,au,aY⟩:=iv hV;have hC:HC W L l (W.heap.size+1) (W.heap.size) (W.heap.size+1+1) V:=⟨h0,by rw[<-hW];exact au,by rw[<-hW];exact ac,aY,ad,ad,ad,ad⟩
    clear hV h0 ac au aY;generalize W.heap.size+1+1=cT at hC ⊢;generalize W.heap.size+1=g2 at hC ⊢;generalize W.heap.size=cb at hC ⊢;exact key g2 cb cT _ hC
   ·
    refine dT ?_;exact fp
  ·
   refine dT ?_;refine a2 ?_ ?_
   ·
    refine bQ rfl (λK hK=>?_) rfl;go_simp;refine dP hK ?_;clear hK K;refine ao ?_;refine dT ?_;refine tf ?_;generalize hV:World.drew (World.alloc _ _)=V;obtain⟨h0,ac,au,aY⟩:=iv hV;have hC:HC W L l (W.heap.size+1) (W.heap.size+1+1) (W.heap.size) V:=⟨h0,by rw[<-hW];exact au,by rw[<-hW];exact aY,ac,ad,ad,ad,ad⟩
    clear hV h0 ac au aY;generalize W.heap.size+1+1=cT at hC ⊢;generalize W.heap.size+1=g2 at hC ⊢;generalize W.heap.size=cb at hC ⊢;exact key g2 cT cb _ hC
   ·
    refine dT ?_;refine ao ?_;refine bQ rfl (λK hK=>?_) rfl;go_simp;refine dP hK ?_;clear hK K;refine tf ?_;generalize hV:World.drew (World.alloc _ _)=V;obtain⟨h0,ac,au,aY⟩:=iv hV;have hC:HC W L l (W.heap.size+1+1) (W.heap.size+1) (W.heap.size) V:=⟨h0,by rw[<-hW];exact aY,by rw[<-hW];exact au,ac,ad,ad,ad,ad⟩
    clear hV h0 ac au aY;generalize W.heap.size+1+1=cT at hC ⊢;generalize W.heap.size+1=g2 at hC ⊢;generalize W.heap.size=cb at hC ⊢;exact key cT g2 cb _ hC
 intro U bL gc V hC;have bV:=ae hC;obtain⟨c0,bR,bu⟩:=hC.bc.two;clear hC a0 aj af J N dz;refine ao ?_;refine bQ rfl (λK hK=>?_) rfl;go_simp;refine dP hK ?_;clear hK K;refine b9 ?_;generalize hX:World.setCell _ _ _=X;obtain⟨br,b5⟩:=km 0 [.int .i64 k,.int .i64 0,.slice (some ⟨U,0,none⟩) L L,.slice (some ⟨bL,0,none⟩) l l] bV.bc hX;have aR:aq X gc 72 #[.int .i64 k,.int .i64 0,.slice (some ⟨U,0,none⟩) L L,.slice (some ⟨bL,0,none⟩) l l]:=by simpa[je] using br
 have aX:=bV.ba.on b5 bV.ac;have bC:=bV.bb.on b5 bV.Kj;have bs:Ext W X:=Fr.low (M:=λb=>b=gc) (Fr.trans (Fr.mono bV.ext λ_ h=>h.elim) b5) λb O=>by have:=bV.lo;omega
 have aQ:=bJ bs aX bC aR;obtain⟨d0,aL,aM⟩:=aR.two;clear hX br b5 aR aX bC bs c0 bR bu;have bv:Ext w X:=ah.1.trans aQ.1;have bo:=ah.2.aj aQ.1;have Y:=(bq.1.on (Fr.ext bv)).ints;have g:=b8.1;have m:=b8.2.1;have T:(is.map df).length=Nat.min i L:=by rw[Lo];simp only[Nat.min_def];split<;>omega
 have o:=Y.Hk;have H:(is.map df).length<=(List.replicate L (Value.int .i64 0)).length:=by simp;omega
 have z:=cJ aQ.2.1 aQ.2.2.1 aQ.2.2.2 bv bo;have f:=cJ T o H g m;clear bv bo Y T o H g m;obtain⟨aU,F,bj,az⟩:=si (P:=prog) 22 22 3 3 Tryz.underlying22 (by kernel_rfl) (dp:=some ⟨U,0,none⟩) (dCap:=L) (sp:=IA) (sCap:=ic) z.1 (is.map df) f.1 (λh=>⟨rfl,f.2.1 h⟩) f.2.2.1 (by simp[Value.oneCell']);have bn:=z.2.2.1.on az (Ne.symm bV.ac);have bc:=aE bj az bn;clear bj az;obtain⟨e0,a6,aP⟩:=bn.two;clear bn;have bH:Ext w aU:=Fr.low (M:=λb=>b=U) (Fr.trans (Fr.mono z.2.2.2.1 λ_ h=>h.elim) bc.2.1) λb O=>by have:=bV.lo;have:=ah.1.size;omega
 have ai:=(bq.2.on (Fr.ext bH)).ints;have r:=ai.Hk;have bN:(ls.map df).length=Nat.min l l:=by rw[Lo];have:=f.2.2.2.2;simp only[Nat.min_def];split<;>omega
 have I:(ls.map df).length<=(List.replicate l (Value.int .i64 0)).length:=by have:=f.2.2.2.2;simp;omega
 have bD:=z.2.1.on bc.2.1 (Ne.symm bV.ab);have c4:=cJ bN r I bD bH;clear bH ai r bN I bD;obtain⟨b6,G,bj,az⟩:=si (P:=prog) 22 22 3 3 Tryz.underlying22 (by kernel_rfl) (dp:=some ⟨bL,0,none⟩) (dCap:=l) (sp:=S) (sCap:=lc) c4.2.2.2.1 (ls.map df) c4.1 (λh=>⟨rfl,c4.2.1 h⟩) c4.2.2.1 (by simp[Value.oneCell']);have bn:=bc.2.2.on az (Ne.symm bV.Kj);have bP:=aE bj az bn;clear bj az;obtain⟨f0,dL,dO⟩:=bn.two;clear bn;have cz:=(z.2.2.2.2.on bc.2.1 (aD bV.lo)).on bP.2.1 (aD bV.lo);have dv:Ext w b6:=Fr.low (M:=λb=>b=bL) (Fr.trans (Fr.mono c4.2.2.2.2 λ_ h=>h.elim) bP.2.1) λb O=>by have:=bV.lo;have:=ah.1.size;omega
 have a3:=ag cz dv;obtain⟨bl,aA,aO⟩:=cz.two;clear cz dv;go_wp2_with(fail);generalize hX:World.setCell _ _ _=Z;obtain⟨bk,bd,bg⟩:=bw (w:=w) [.int .i64 k,.int .i64 0,.slice (some ⟨U,0,none⟩) L L,.slice (some ⟨bL,0,none⟩) l l] (by rfl) a3.1 a3.2 ad hX;have bh:=ag bd bg;clear hX bd bg bl aA aO d0 aL aM e0 a6 aP f0 dL dO F G;obtain⟨bl,aA,aO⟩:=bk.two;refine LU (v:=.agg #[.int .i64 k,.int .i64 0,.slice (some ⟨U,0,none⟩) L L,.slice (some ⟨bL,0,none⟩) l l]) (by simp[results,Tryz.results49,go_sem,bl]) rfl ?_;have bB:=bV.lo;have al:=ah.2.lt;have ap:=(bc.1.on bP.2.1 bV.ab).on bh.2 ad;have ar:=bP.1.on bh.2 ad;rw[vl] at ap ar;have ak:=b8.2.2;have ab:=ap.lt;have a8:=ar.lt;have s:cY u k is ls=⟨k,0,is++List.replicate (L - is.length) 0,ls⟩:=by unfold cY;rw[ak]
 rw[s];refine⟨some ⟨U,0,none⟩,L,L,some ⟨bL,0,none⟩,l,l,rfl,gh.2 ⟨_,_,_,_,_,_,rfl,Lk _,Lk _,ap.sl (by have:=b8.1;simp;omega) ⟨ad,ab⟩,?_⟩,bh.1⟩;have:=ar.sl (n:=l) (P:=fresh w Z) (by have:=b8.2.1;simp;omega) ⟨ad,a8⟩
 rwa [show l - ls.length=0 by have:=b8.2.1;omega,List.replicate_zero,LM] at this
end Go.Proofs.YtkhnkojkplbioaaGreat
