/- Part 19 of the proof. No condition of its own. -/
import Derived.Test.YtnhhdaggkiomoaaGreatQ18
namespace Go.Proofs.YtnhhdaggkiomoaaGreat
open Go.RowKit Go.Proofs.Tryz
set_option maxRecDepth 1000000
set_option maxHeartbeats 25600000
set_option linter.unusedVariables false
variable{t:Int}{fs:List al}{b1 g i ic j l lc n:Nat}{M:Nat→Prop}{IA S:Ls}{p:Prop}{e:VE}{W Z:World}{f:al}{u:ay}{x:az}
theorem ID(o c:Value)(O hn hc b1 n fc:Nat)(t:Int)(w:World)(h0:0≤t)(ak:t<hn)(dc:O<w.heap.size)(cm:w.cell? ⟨O,t.toNat,none⟩=some (.slice (some ⟨b1,0,none⟩) (n+1) fc))(ap:n≤1000000) :
  Calls prog 39 #[.agg #[o,c,.slice (some ⟨O,0,none⟩) hn hc,.int .i64 0],.int .i64 t] w fun e ab=>e=.returned (.pointer (some ⟨b1,n*4,none⟩))∧Ext w ab:=by
 have:=xI o c O 0 hn hc b1 0 n fc t w h0 ak dc (by rw[KY];exact cm) ap
 rwa [KY] at this
theorem dZ{s:aj}{a6:al}(h:s.threads[t.toNat]?=some (fs++[f])):bs s t a6={s with threads:=s.threads.set t.toNat (fs++[a6])}:=by
 unfold bs;rw[k2 h,kt]
theorem sG{w:World}{ag:Nat}{v:Value}(h:g≠ag∨i≠j):(w.setCell ⟨g,i,none⟩ v).cell? ⟨ag,j,none⟩=w.cell? ⟨ag,j,none⟩:=by
 apply World.cell?_setCell_other
 intro he;injection he with ac av;omega
structure dy(B:Nat)(w:World)(s:aj)(N:Nat)(q:SV)(xs:List Value)(F1 F2 bQ cb:List Nat):Prop where
 st:qO w s q.GA q.gn q.gc q.TA q.tn q.tc q.HA q.hn q.hc xs F1 F2 bQ cb
 o:aq w N 40 (q.val s)
 ne:N∉F1++(F2++(bQ++cb))
 lo:∀b∈F1++(F2++(bQ++cb)),B≤b∧b<w.heap.size
 go:B≤N
section
variable {B:Nat} {w ab:World} {s:aj} {N:Nat} {q:SV} {xs:List Value} {F1 F2 bQ cb:List Nat}
theorem dy.ai(h:dy B w s N q xs F1 F2 bQ cb)(he:Ext w ab):dy B ab s N q xs F1 F2 bQ cb:=
 ⟨h.st.ak fun b O=>he.block b (h.lo b O).2 fun h=>h,h.o.ai he,h.ne,fun b O=>⟨(h.lo b O).1,KH (h.lo b O).2 he.size⟩,h.go⟩
theorem dy.c4(h:dy B w s N q xs F1 F2 bQ cb)(he:Fr M w ab)(hM:∀b,M b→b<B):dy B ab s N q xs F1 F2 bQ cb:=
 ⟨h.st.ak fun b O=>he.block b (h.lo b O).2 fun hm=>by have:=hM b hm;have:=(h.lo b O).1;omega,h.o.on he (fun hm=>by have:=hM N hm;have:=h.go;omega),h.ne,fun b O=>⟨(h.lo b O).1,KH (h.lo b O).2 he.size⟩,h.go⟩
theorem dy.store(h:dy B w s N q xs F1 F2 bQ cb){Q:aj}{p:Addr}{u:Value}(hp:p.block∈F1++(F2++(bQ++cb)))(co:qO (w.setCell p u) Q q.GA q.gn q.gc q.TA q.tn q.tc q.HA q.hn q.hc xs F1 F2 bQ cb)(J:Q.fault=s.fault):dy B (w.setCell p u) Q N q xs F1 F2 bQ cb:=by
 refine⟨co,?_,h.ne,fun b O=>⟨(h.lo b O).1,by simpa[World.setCell] using (h.lo b O).2⟩,h.go⟩;have:=h.o.Ja (p:=p) (fun he=>h.ne (he▸hp)) u;unfold SV.val at this ⊢
 rwa [J]
theorem dy.ok(h:dy B w s N q xs F1 F2 bQ cb):q.Is w (fun b=>B≤b∧b<w.heap.size) s:=(show (⟨q.GA,q.gn,q.gc,q.TA,q.tn,q.tc,q.HA,q.hn,q.hc⟩:SV).Is w _ s from h.st.sv h.lo)
structure r3(B:Nat)(w:World)(s:aj)(N:Nat)(q:SV)(xs:List Value)(F1 F2 bQ cb:List Nat)(t:Int)(fs:List al)(f:al)(b1:Nat)(IA:Ls)(i ic:Nat)(S:Ls)(l lc:Nat):Prop where
 oz:dy B w s N q xs F1 F2 bQ cb
 lt:b1<w.heap.size
 c0:w.cell? ⟨b1,fs.length*4,none⟩=some (.int .i64 f.proc)
 c1:w.cell? ⟨b1,fs.length*4+1,none⟩=some (.int .i64 f.pc)
 c2:w.cell? ⟨b1,fs.length*4+2,none⟩=some (.slice IA i ic)
 c3:w.cell? ⟨b1,fs.length*4+3,none⟩=some (.slice S l lc)
 fz:∀j,w.frozen? ⟨b1,j,none⟩=false
 ne:b1≠N
 ge:B≤b1
 hd:∃O fc,q.HA=some ⟨O,0,none⟩∧t.toNat<q.hn∧O<w.heap.size∧O≠b1∧O≠N∧B≤O∧(∀j,w.frozen? ⟨O,j,none⟩=false)∧w.cell? ⟨O,t.toNat,none⟩=some (.slice (some ⟨b1,0,none⟩) (fs.length+1) fc)∧fs.length+1≤fc
 pc:∀v,dy B (w.setCell ⟨b1,fs.length*4+1,none⟩ (.int .i64 v)) {s with threads:=s.threads.set t.toNat (fs++[{f with pc:=v}])} N q xs F1 F2 bQ cb
 ints:∀j v,j<i→∃I,IA=some ⟨I,0,none⟩∧I<w.heap.size∧w.frozen? ⟨I,j,none⟩=false∧(∃u,w.cell? ⟨I,j,none⟩=some u)∧I≠N∧B≤I∧dy B (w.setCell ⟨I,j,none⟩ (.int .i64 v)) {s with threads:=s.threads.set t.toNat (fs++[{f with ints:=f.ints.set j v}])} N q xs F1 F2 bQ cb
theorem dy.GO(bn:dy B w s N q xs F1 F2 bQ cb)(bK:s.threads[t.toNat]?=some (fs++[f])){O fc:Nat}(mC:q.HA=some ⟨O,0,none⟩)
  (hc:w.cell? ⟨O,t.toNat,none⟩=some (.slice (some ⟨b1,0,none⟩) (fs.length+1) fc)) (c2:w.cell? ⟨b1,fs.length*4+2,none⟩=some (.slice IA i ic)) (c3:w.cell? ⟨b1,fs.length*4+3,none⟩=some (.slice S l lc)) :
  r3 B w s N q xs F1 F2 bQ cb t fs f b1 IA i ic S l lc:=by
 have cV:∀b,b∈cb→b∈F1++(F2++(bQ++cb)):=fun b O=>by simp[O]
 have cO:∀b,b∈bQ→b∈F1++(F2++(bQ++cb)):=fun b O=>by simp[O]
 obtain⟨aX,bm,cy,F,o,c8,a9,aO,cq,d,m,cv,k,aR,a,r,aC,a3,g,d0,d1,d2,d3,h,e,n,c,_⟩:=bn.st.top bK;have e1:=mC.symm.trans d;injection e1 with e1;injection e1 with e1 _;subst e1;have e2:=hc.symm.trans a3;injection e2 with e2;injection e2 with e2 _ e3;injection e2 with e2;injection e2 with e2 _;subst e2 e3;have cH:=c2.symm.trans d2;injection cH with cH;injection cH with cH cr a7;subst cH cr a7;have e7:=c3.symm.trans d3;injection e7 with e7;injection e7 with e7 e8 e9;subst e7 e8 e9;refine⟨bn,k,d0,d1,d2,d3,e,fun he=>bn.ne (he▸cV _ a),(bn.lo _ (cV _ a)).1,⟨O,fc,d,m,cv,?_,fun he=>bn.ne (he▸cO _ aR),(bn.lo _ (cO _ aR)).1,h,a3,g⟩,fun v=>bn.store (cV _ a) (n v) rfl,fun j v bi=>?_⟩
 ·intro he;subst he;have nd:=bn.st.nd;have n1:=(List.nodup_append.1 nd).2.1;have n2:=(List.nodup_append.1 n1).2.1;exact(List.nodup_append.1 n2).2.2 O aR O a rfl
 ·obtain⟨I,dl,cD,dJ,T,aN,co⟩:=c j v bi;exact⟨I,dl,cD,T,aN,fun he=>bn.ne (he▸cV _ dJ),(bn.lo _ (cV _ dJ)).1,bn.store (cV _ dJ) co rfl⟩
theorem dy.top(h:dy B w s N q xs F1 F2 bQ cb){t:Int}{fs:List al}{f:al}(bK:s.threads[t.toNat]?=some (fs++[f]))(h0:0≤t)(ao:s.fault=0)(ap:fs.length≤1000000) :
  ∃b1 IA i ic S l lc,i=f.ints.length∧l=f.av.length∧
   (∀ab,Ext w ab→Calls prog 39 #[.agg (q.val s),.int .i64 t] ab fun e j=>e=.returned (.pointer (some ⟨b1,fs.length*4,none⟩))∧Ext ab j)∧
   ∀ab,Ext w ab→r3 B ab s N q xs F1 F2 bQ cb t fs f b1 IA i ic S l lc:=by
 obtain⟨O,b1,fc,IA,i,ic,S,l,lc,mC,cp,T,cf,ct,bu,an,hl,hc,aC,c0,c1,c2,c3,ah,a,c4,hints,_⟩:=h.st.top bK;refine⟨b1,IA,i,ic,S,l,lc,an,hl,fun ab he=>?_,fun ab he=>?_⟩
 ·have:=ID (.slice q.GA q.gn q.gc) (.slice q.TA q.tn q.tc) O q.hn q.hc b1 fs.length fc t ab h0 ad (KH T he.size) ((he.cell T fun h=>h).trans hc) ap;unfold SV.val;rw[mC,ao];exact this
 ·exact(h.ai he).GO bK mC ((he.cell T fun h=>h).trans hc) ((he.cell cf fun h=>h).trans c2) ((he.cell cf fun h=>h).trans c3)
theorem r3.IW(h:r3 B w s N q xs F1 F2 bQ cb t fs f b1 IA i ic S l lc)(bK:s.threads[t.toNat]?=some (fs++[f]))(v:Int):
  r3 B (w.setCell ⟨b1,fs.length*4+1,none⟩ (.int .i64 v)) {s with threads:=s.threads.set t.toNat (fs++[{f with pc:=v}])} N q xs F1 F2 bQ cb t fs {f with pc:=v} b1 IA i ic S l lc:=by
 obtain⟨O,fc,mC,_,T,bf,_,_,_,hc,_⟩:=h.hd;have ak:=(List.getElem?_eq_some_iff.1 bK).1;exact(h.pc v).GO (by simp[ak]) mC ((sG (.inl (Ne.symm bf))).trans hc) ((sG (.inr ad)).trans h.c2) ((sG (.inr ad)).trans h.c3)
theorem dy.dg(h:dy B w s N q xs F1 F2 bQ cb){j:Nat}(bi:j<q.gn):∃ck,q.GA=some ⟨ck,0,none⟩∧ck<w.heap.size∧w.frozen? ⟨ck,j,none⟩=false∧(∃u,w.cell? ⟨ck,j,none⟩=some u)∧ck≠N∧B≤ck∧
  ∀v,dy B (w.setCell ⟨ck,j,none⟩ (.int .i64 v)) {s with globals:=s.globals.set j v} N q xs F1 F2 bQ cb:=by
 obtain⟨ck,hG,hl,J,hc,hm,co⟩:=h.st.dg bi;have da:ck∈F1++(F2++(bQ++cb)):=by simp[hm]
 exact⟨ck,hG,hl,J,hc,fun he=>h.ne (he▸da),(h.lo _ da).1,fun v=>h.store da (co v) rfl⟩
end
structure jO(u:ay)(s:aj)(t:Int)(f:al)(cq:cJ)(x:az)(N:Nat):Prop where
 hU:uW u
 hS:aX u N s
 sm:Small s
 ht:ef s t=some f
 hF:cb u f
 hp:u.procs[f.proc.toNat]?=some cq
 hx:cq.code[f.pc.toNat]?=some x
 ok:∃len:Nat,cq.code.length=len+1∧h2 (bx u) cq.locals cq.av len x
 nx:x.op≠8→f.pc+1<cq.code.length
 pc:0≤f.pc∧f.pc≤201
 il:x.ints.length≤200
 kl:x.places.length≤200
theorem jO.of{s:aj}{N:Nat}(hU:uW u)(hS:aX u N s)(hN:N≤100000)(ht:ef s t=some f):∃cq x,jO u s t f cq x N∧dW u s t=some x:=by
 obtain⟨hF,_,_⟩:=hS.top ht;obtain⟨cq,x,hp,hx,ac,av,aV,bz,cm,aY,g,cF,bh⟩:=hU.Ip hF;have hc:=bh.code;obtain⟨c,cK,b9,_⟩:=hc;have hl:cq.code.length=c.length+1:=by rw[cK];simp
 exact⟨cq,x,⟨hU,hS,hS.small hU.ok hN,ht,hF,hp,hx,cm,cF,⟨bz,ad⟩,aY,g⟩,tQ ht hp hx⟩
theorem jO.Ff{s:aj}{cq:cJ}{N:Nat}(h:jO u s t f cq x N)(he:gd (bx u) cq.locals e){w:World}{GA:Ls}{gn:Nat}{c0 c1 c2 c3:Value}
  (a2:Sl w (au w) GA gn (s.globals.map .i)) (an:Sl w (au w) IA i (f.ints.map .i)) (a5:(bk e).rep w (au w) [c0,c1,c2,c3]):lD w GA IA gn i s.globals f.ints e [c0,c1,c2,c3]∧nL s.globals f.ints e:=by
 obtain⟨bn,n,_⟩:=xB h.hS h.hF h.hp he;have ac:=a2.1;have av:=an.1;rw[KK] at ac av;exact⟨⟨a2.ints,an.ints,by rw[←ac,←av];exact bn,ku e _ a5⟩,n⟩
structure JS(u:ay)(s:aj)(t:Int)(f:al)(x:az)(r:Int×Int):Prop where
 bad:r.2≠0→bW u s t f x=({s with fault:=r.2},true)
 bz:r.2=0→x.op=6→r.1=0→bW u s t f x=(bs s t {f with pc:=x.target},true)
 bn:r.2=0→x.op=6→r.1≠0→bW u s t f x=(bs s t (next f),true)
 gl:r.2=0→x.op=1→x.dg=true→bW u s t f x=({bs s t (next f) with globals:=s.globals.set x.target.toNat r.1},true)
 lo:r.2=0→x.op=1→x.dg=false→bW u s t f x=(bs s t {next f with ints:=f.ints.set x.target.toNat r.1},true)
theorem JH{s:aj}(he:x.expr=some e)(cy:x.op=1∨x.op=6):JS u s t f x (ev s.globals f.ints e):=by
 have h0:bW u s t f x=(if (ev s.globals f.ints e).2≠0 then ({s with fault:=(ev s.globals f.ints e).2},true)
  else if x.op=6 then (bs s t (if (ev s.globals f.ints e).1=0 then {f with pc:=x.target} else next f),true)
  else if x.dg then ({bs s t (next f) with globals:=s.globals.set x.target.toNat (ev s.globals f.ints e).1},true)
  else (bs s t {next f with ints:=f.ints.set x.target.toNat (ev s.globals f.ints e).1},true)):=by
  unfold bW;rw[if_pos cy,he];rfl
 generalize ev s.globals f.ints e=r at *;refine⟨fun h=>?_,fun h aY bt=>?_,fun h aY bt=>?_,fun h ac a2=>?_,fun h ac a2=>?_⟩
 ·rw[h0,if_pos h]
 ·rw[h0,if_neg ad,if_pos aY,if_pos bt]
 ·rw[h0,if_neg ad,if_pos aY,if_neg bt]
 ·rw[h0,if_neg ad,if_neg ad,if_pos a2]
 ·rw[h0,if_neg ad,if_neg ad,if_neg (by simp[a2])]
theorem jO.th{s:aj}{cq:cJ}{N:Nat}(h:jO u s t f cq x N):s.fault=0∧0≤t∧t<s.threads.length∧∃fs,s.threads[t.toNat]?=some (fs++[f])∧fs.length≤1000000:=by
 obtain⟨h0,ac,fs,bK⟩:=jI h.ht;have:=(List.getElem?_eq_some_iff.1 bK).1;exact⟨h0,ac,ad,fs,bK,by have:=(h.sm.f _ (KJ bK)).1;simp at this;omega⟩
theorem gR{w:World}{B:Nat}{s Q:aj}{N:Nat}{q:SV}{xs:List Value}{F1 F2 bQ cb:List Nat}(h:dy B W s N q xs F1 F2 bQ cb)(J:Fr M W Z)(hM:∀b,M b→b<B)(aR:w.heap.size≤B)(aw:Ext w Z)(hs:s=Q):cG mf w Q true (.returned (.tuple #[.agg (q.val Q),.bool true])) Z:=by
 subst hs;exact⟨q,rfl,(h.c4 J hM).ok.mono fun b O=>.inr ⟨ad,O.2⟩,aw⟩
theorem ew{w aT b6:World}{Q:aj}{b:Bool}{q:SV}(h:q.Is b6 (fun k=>mf k∨(aT.heap.size≤k∧k<b6.heap.size)) Q)(J:Fr M b6 Z)(hM:∀b,M b→b<aT.heap.size)(aR:w.heap.size≤aT.heap.size)(aw:Ext w Z):cG mf w Q b (.returned (.tuple #[.agg (q.val Q),.bool b])) Z:=
 ⟨q,rfl,(h.ak fun k ap=>J.block k (ap.resolve_left fun h=>h).2 fun hm=>by have:=hM k hm;have:=(ap.resolve_left fun h=>h).1;omega).mono fun k ap=>.inr ⟨by have:=(ap.resolve_left fun h=>h).1;omega,by have:=(ap.resolve_left fun h=>h).2;have:=J.size;omega⟩,aw⟩
namespace Co
theorem dC(h:p:=by
 go_upto_region 13 with(fail);generalize hX:World.setCell _ _ _=Y;have bm:dy aT.heap.size Y {s with threads:=(s.threads.set t.toNat (fs++[next f])).set t.toNat (fs++[{next f with ints:=(next f).ints.set x.target.toNat r}])} b6.heap.size ⟨aZ,bL,bc,aX,tn,L,bf,hn,a3⟩ xs F1 F2 bQ cb:=hX▸cC.o;have ar:=cL hX;have b7:=cQ;have bE:Ext w Y:=Fr.low (M:=fun b=>b=I) (Fr.trans (Fr.mono (ah.1.trans aR.2.1) fun _ h=>h.elim) ar) fun b O=>by have:=ah.1.size;omega
 have k:=aR.2.2.on ar (aD ah.2.2.2.1.lt);have bC:=aB bm k bE;clear e0 a6 aP bl aA aO;obtain⟨e0,a6,aP⟩:=bm.o.two;obtain⟨bl,aA,aO⟩:=k.two;clear hX bm ar bE k;go_wp2_with(fail);generalize hX:World.setCell _ _ _=Z;obtain⟨bh,a9,be⟩:=bA (w:=w) [.slice aZ bL bc,.slice aX tn L,.slice bf hn a3,.int .i64 s.fault] (by rfl) bC.2.1 bC.2.2 ad hX;have bd:=ag a9 be;clear hX a9 be bl aA aO e0 a6 aP;obtain⟨bl,aA,aO⟩:=bh.two;refine Ln (v:=.tuple #[.agg #[.slice aZ bL bc,.slice aX tn L,.slice bf hn a3,.int .i64 s.fault],.bool true]) (by simp[results,Tryz.results38,go_sem,bl]) rfl ?_;rw[bV.o];show cG mf w (bs s t {next f with ints:=f.ints.set x.target.toNat r}) true _ _
 exact gR (Q:=bs s t {next f with ints:=f.ints.set x.target.toNat r}) (q:=⟨aZ,bL,bc,aX,tn,L,bf,hn,a3⟩) bC.1 bd.2.drew (fun b O=>by have:=ah.2.2.2.1.lt;omega) (aD ah.1.size) bd.1.drew (by rw[dZ bY.2.2.1,List.set_set];rfl)
 ):p:=h
theorem Az(h:p:=by
 have dn:=JH (u:=u) (s:=s) (t:=t) (f:=f) hex cy;have c5:bL=s.globals.length:=by have:=hs.at_.g.1;simpa using this.symm
 have ci:=h.hS.dg;have c4:=h.pc;have cp:=h.nx;have aQ:=cI h aK hex bO a1;have bY:=cT ao dg bK cf c5 ci;have bw:=ae dn;have dA:=bH c4 cp hlen dw;have cc:=aB hs bM hT;clear ao bK c5 ci hlen c4 cp an hex aK bO a1 cf cH dw dg h dn hs bM hT;dsimp only[SV.val,IV.val];go_enter func38,ntmps38;go_upto_region 1 with(fail);generalize ba:World.alloc _ _=W;have aw:=kq ba;have bF:=jo ba;have ce:=g5 ba;have cA:=jq ba;have ah:=cT aw bF ce cA (cc.1.on aw) (cc.2.1.on aw);have aa:=ae (cc.2.2.on aw);obtain⟨a0,ai,af⟩:=bF.two;obtain⟨a8,am,aF⟩:=ce.two;clear ba aw bF ce cA cc;refine eK (fun _=>False) [(0,3),(1,0),(2,3),(3,0),(4,0),(5,3),(6,1),(7,3),(8,3),(9,0),(10,2),(11,3),(12,3),(13,3),(14,3),(15,3)] ?_;refine pf ?_;refine ph ?_;refine pf ?_
 iterate 2 refine ph ?_
 refine pf ?_;refine aJ rfl (fun K hK=>?_);go_simp;refine(k3 (aa.on (Fr.refl _ W).drew) _ _ _).mono ?_;rintro e aS ⟨rfl,aN⟩;have ab:=ae (aa.on (Fr.aF aN));have bu:=ae (Fr.aF aN);have cx:=ab.lf;have c2:=ab.c2;refine dz hK (aN) ?_;clear hK K;clear aN
 iterate 2 refine pf ?_
 refine Ka ?_;refine ax rfl (fun K hK=>?_);go_simp;have bI:(bk ex).rep aS (au aS) [.int .i64 eo,.int .i64 en,.string es,.slice EA em ec]:=by
  have:=(ah.2.2.2.2.2.on bu.o).expr;rw[aQ.2.2.1] at this;exact this
 refine(o2 ex aS bS IA bL i bD ic s.globals f.ints _ _ _ _ (aQ.1.Ff aQ.2.1 (ah.2.2.2.2.1.on bu.o).at_.g ab.ints bI).1).mono ?_;rintro e aT ⟨rfl,bg⟩;have a4:=ae (bu.trans (Fr.of bg));generalize ev s.globals f.ints ex=R at *;obtain⟨r,z⟩:=R;clear bI bg a0 ai af a8 am aF c2 cx;obtain⟨a0,ai,af⟩:=(ah.2.1.ai a4.o).two;have bR:=a4.size;refine dO hK ?_;clear hK K
 iterate 5 refine pf ?_
 refine aE ?_;by_cases bt:z=0
 case neg=>
  have q5:(z != 0)=true:=by simpa using bt
  have bV:=ae (bw.bad bt);clear bt bw aa ab;go_wp2_with(fail);refine(k1 s ⟨bS,bL,bD,TA,tn,tc,some ⟨O,bn,none⟩,hn,hc⟩ z aT (ah.2.2.2.2.1.on a4.o) aQ.1.sm).mono ?_;rintro e b6 ⟨⟨aZ,cu,bc,aX,m,L,bf,ct,a3⟩,rfl,bZ,a7⟩;have bN:=ae bZ;have cF:=(ah.2.2.2.1.ai a4.o).ai a7;have aW:=ag cF ((ah.1.trans a4.o).trans a7);obtain⟨bl,aA,aO⟩:=cF.two;clear bZ a7 cF a0 ai af;go_wp2_with(fail);generalize hX:World.setCell _ _ _=Z;obtain⟨bh,a9,be⟩:=bA (w:=w) [.slice aZ cu bc,.slice aX m L,.slice bf ct a3,.int .i64 z] (by rfl) aW.1 aW.2 ad hX;have bd:=ag a9 be;clear hX a9 be bl aA aO;obtain⟨bl,aA,aO⟩:=bh.two;refine Ln (v:=.tuple #[.agg #[.slice aZ cu bc,.slice aX m L,.slice bf ct a3,.int .i64 z],.bool true]) (by simp[results,Tryz.results38,go_sem,bl]) rfl ?_;rw[bV.o];show cG mf w {s with fault:=z} true _ _
  exact ew (Q:={s with fault:=z}) (q:=⟨aZ,cu,bc,aX,m,L,bf,ct,a3⟩) bN.o bd.2 (fun b O=>by have:=ah.2.2.2.1.lt;omega) (aD ah.1.size) bd.1
 have q5:(z != 0)=false:=by simpa using bt
 have bb:=ae bt;clear bt aa ab;go_wp2_with(fail);refine(fG s bS TA (some ⟨O,bn,none⟩) bL bD tn tc hn hc aT (ah.2.2.2.2.1.on a4.o).at_ aQ.1.sm).mono ?_;rintro e b6 ⟨aZ,bc,aX,L,bf,a3,xs,F1,F2,bQ,cb,rfl,co,bv,a7⟩;have bT:=aB co bv a7;clear co bv a7 a0 ai af;go_upto_region 5 with(fail);generalize hV:World.alloc _ _=V;have bj:=aU hV;have b5:=aG hV;have dG:=bT.2.2.size;have hOut:dy aT.heap.size V s b6.heap.size ⟨aZ,bL,bc,aX,tn,L,bf,hn,a3⟩ xs F1 F2 bQ cb:=
  ⟨bT.1.ak fun b O=>bj.block b (bT.2.1 b O).2 fun h=>h,b5,fun O=>by have:=(bT.2.1 _ O).2;omega,fun b O=>⟨(bT.2.1 b O).1,by have:=(bT.2.1 b O).2;have:=bj.size;omega⟩,dG⟩
 have T:Ext W V:=(a4.trans bT.2.2).trans bj;obtain⟨c1,dt,i2,cZ,de,c8,dj,c3,cg,aH,J⟩:=hOut.top bY.2.2.1 bY.2.1 bY.1 bY.2.2.2.1;have cc:=cI hOut aH J T c3;obtain⟨e0,a6,aP⟩:=hOut.o.two;clear hV bj b5 hOut T aH J c3 cg;go_wp2_with(fail);refine(cc.2.1 V Lo).mono ?_;rintro e cN ⟨rfl,cw⟩;have P:=ae (cc.2.2.1 cN cw);have cj:=ae (cc.2.2.2.1.trans cw);clear e0 a6 aP cw;have cd:=P.c1;have g2:=P.fz;have cS:=P.lt;have c9:=dA.1;go_upto_region 8 with(fail);generalize hX:World.setCell _ _ _=X;have bB:r3 aT.heap.size X {s with threads:=s.threads.set t.toNat (fs++[next f])} b6.heap.size ⟨aZ,bL,bc,aX,tn,L,bf,hn,a3⟩ xs F1 F2 bQ cb t fs (next f) c1 dt i2 cZ de c8 dj:=hX▸P.IW bY.2.2.1 (f.pc+1);have b8:=cL hX;have dx:=P.ge;have br:Ext W X:=Fr.low (M:=fun b=>b=c1) (Fr.trans (Fr.mono cj.o fun _ h=>h.elim) b8) fun b O=>ad;have bo:=ah.2.2.1.ai br;have bq:=ah.2.2.2.1.ai br;have aR:=aB bB br bq;obtain⟨a8,am,aF⟩:=bo.two;obtain⟨e0,a6,aP⟩:=bB.oz.o.two;obtain⟨bl,aA,aO⟩:=bq.two;have cv:=bB.c1;have bP:=bB.c2;have cU:=bB.fz;have H:=bB.lt;have b2:=bB.ne;clear hX bB b8 br bo bq cd g2 cS P;by_cases aY:x.op=6
 ·have di:(x.op == 6)=true:=by simpa using aY
  by_cases a5:r=0
  ·have q7:(r == 0)=true:=by simpa using a5
   have bV:=ae (bw.bz bb.o aY a5);clear aY a5 bw;go_upto_region 13 with(fail);generalize hX:World.setCell _ _ _=Y;have bm:dy aT.heap.size Y {s with threads:=(s.threads.set t.toNat (fs++[next f])).set t.toNat (fs++[{next f with pc:=x.target}])} b6.heap.size ⟨aZ,bL,bc,aX,tn,L,bf,hn,a3⟩ xs F1 F2 bQ cb:=hX▸aR.1.pc x.target;have ar:=cL hX;have bE:Ext w Y:=Fr.low (M:=fun b=>b=c1) (Fr.trans (Fr.mono (ah.1.trans aR.2.1) fun _ h=>h.elim) ar) fun b O=>by have:=ah.1.size;omega
   have k:=aR.2.2.on ar (aD ah.2.2.2.1.lt);have bC:=aB bm k bE;clear e0 a6 aP bl aA aO;obtain⟨e0,a6,aP⟩:=bm.o.two;obtain⟨bl,aA,aO⟩:=k.two;clear hX bm ar bE k;go_wp2_with(fail);generalize hX:World.setCell _ _ _=Z;obtain⟨bh,a9,be⟩:=bA (w:=w) [.slice aZ bL bc,.slice aX tn L,.slice bf hn a3,.int .i64 s.fault] (by rfl) bC.2.1 bC.2.2 ad hX;have bd:=ag a9 be;clear hX a9 be bl aA aO e0 a6 aP;obtain⟨bl,aA,aO⟩:=bh.two;refine Ln (v:=.tuple #[.agg #[.slice aZ bL bc,.slice aX tn L,.slice bf hn a3,.int .i64 s.fault],.bool true]) (by simp[results,Tryz.results38,go_sem,bl]) rfl ?_;rw[bV.o];show cG mf w (bs s t {f with pc:=x.target}) true _ _
   exact gR (Q:=bs s t {f with pc:=x.target}) (q:=⟨aZ,bL,bc,aX,tn,L,bf,hn,a3⟩) bC.1 bd.2 (fun b O=>by have:=ah.2.2.2.1.lt;omega) (aD ah.1.size) bd.1 (by rw[dZ bY.2.2.1,List.set_set];rfl)
  ·have q7:(r == 0)=false:=by simpa using a5
   have bV:=ae (bw.bn bb.o aY a5);clear aY a5 bw;have bC:=aB aR.1.oz aR.2.2 (ah.1.trans aR.2.1);go_wp2_with(fail);generalize hX:World.setCell _ _ _=Z;obtain⟨bh,a9,be⟩:=bA (w:=w) [.slice aZ bL bc,.slice aX tn L,.slice bf hn a3,.int .i64 s.fault] (by rfl) bC.2.1 bC.2.2 ad hX;have bd:=ag a9 be;clear hX a9 be bl aA aO e0 a6 aP;obtain⟨bl,aA,aO⟩:=bh.two;refine Ln (v:=.tuple #[.agg #[.slice aZ bL bc,.slice aX tn L,.slice bf hn a3,.int .i64 s.fault],.bool true]) (by simp[results,Tryz.results38,go_sem,bl]) rfl ?_;rw[bV.o];show cG mf w (bs s t (next f)) true _ _
   exact gR (Q:=bs s t (next f)) (q:=⟨aZ,bL,bc,aX,tn,L,bf,hn,a3⟩) bC.1 bd.2 (fun b O=>by have:=ah.2.2.2.1.lt;omega) (aD ah.1.size) bd.1 (by rw[dZ bY.2.2.1])
 ·have ac:x.op=1:=ad;have di:(x.op == 6)=false:=by simpa using aY
  cases a2:x.dg with
  | true=>
   have bV:=ae (bw.gl bb.o ac a2);rw[a2] at a8;have bJ:=aQ.2.2.2.1 ac a2;have G:=bY.2.2.2.2.1;have bG:=bY.2.2.2.2.2;have bU:x.target<(bL:Int):=ad;have U:=dA.2.2.2;obtain⟨ck,y,da,bi,⟨cO,cV⟩,cW,cQ,ap⟩:=aR.1.oz.dg (j:=x.target.toNat) (by show x.target.toNat<bL;omega);simp only at y;subst y;have cC:=ae (ap r);clear aY ac bw bJ G bG ap;go_upto_region 13 with(fail);generalize hX:World.setCell _ _ _=Y;have bm:dy aT.heap.size Y {s with threads:=s.threads.set t.toNat (fs++[next f]),globals:=s.globals.set x.target.toNat r} b6.heap.size ⟨some ⟨ck,0,none⟩,bL,bc,aX,tn,L,bf,hn,a3⟩ xs F1 F2 bQ cb:=hX▸cC.o;have ar:=cL hX;have bX:=cQ;have bE:Ext w Y:=Fr.low (M:=fun b=>b=ck) (Fr.trans (Fr.mono (ah.1.trans aR.2.1) fun _ h=>h.elim) ar) fun b O=>by have:=ah.1.size;omega
   have k:=aR.2.2.on ar (aD ah.2.2.2.1.lt);have bC:=aB bm k bE;clear e0 a6 aP bl aA aO;obtain⟨e0,a6,aP⟩:=bm.o.two;obtain⟨bl,aA,aO⟩:=k.two;clear hX bm ar bE k;go_wp2_with(fail);generalize hX:World.setCell _ _ _=Z;obtain⟨bh,a9,be⟩:=bA (w:=w) [.slice (some ⟨ck,0,none⟩) bL bc,.slice aX tn L,.slice bf hn a3,.int .i64 s.fault] (by rfl) bC.2.1 bC.2.2 ad hX;have bd:=ag a9 be;clear hX a9 be bl aA aO e0 a6 aP;obtain⟨bl,aA,aO⟩:=bh.two;refine Ln (v:=.tuple #[.agg #[.slice (some ⟨ck,0,none⟩) bL bc,.slice aX tn L,.slice bf hn a3,.int .i64 s.fault],.bool true]) (by simp[results,Tryz.results38,go_sem,bl]) rfl ?_;rw[bV.o];show cG mf w ({bs s t (next f) with globals:=s.globals.set x.target.toNat r}) true _ _
   exact gR (Q:={bs s t (next f) with globals:=s.globals.set x.target.toNat r}) (q:=⟨some ⟨ck,0,none⟩,bL,bc,aX,tn,L,bf,hn,a3⟩) bC.1 bd.2 (fun b O=>by have:=ah.2.2.2.1.lt;omega) (aD ah.1.size) bd.1 (by rw[dZ bY.2.2.1])
  | false=>
   have bV:=ae (bw.lo bb.o ac a2);rw[a2] at a8;have ak:=aQ.2.2.2.2 ac a2;have c3:=cc.2.2.2.2;have bU:x.target<(i2:Int):=ad;have U:=dA.2.2.2;obtain⟨I,dl,da,bi,⟨cO,cV⟩,cW,cQ,hints⟩:=aR.1.ints x.target.toNat r ad;subst dl;have cC:=ae hints;clear aY ac bw ak c3 hints;go_upto_region 7 with(fail);exact Ba
 ):p:=h
end Co
open Co in
theorem v9(u:ay)(s:aj)(t:Int)(f:al)(cq:cJ)(x:az)(N:Nat)(w:World)(q:SV)(v:IV)(h:jO u s t f cq x N)(cy:x.op=1∨x.op=6)(hs:q.Ok w s)(bM:v.Ok w x) :
  Calls prog 38 #[.agg (q.val s),.int .i64 t,.agg (v.val x)] w (cG mf w (bW u s t f x).1 (bW u s t f x).2):=by
 obtain⟨ao,dg,cH,fs,bK,cf⟩:=h.th;obtain⟨bS,bL,bD,TA,tn,tc,HA,hn,hc⟩:=q;obtain⟨eo,en,es,EA,em,ec,QA,qm,qc,dh,j,db,KA,dk,kc⟩:=v;obtain⟨O,bn,b1,c6,n,fc,IA,i,ic,S,l,lc,e,hT⟩:=hs.at_.top h.sm h.ht;simp only at e;subst e;exact Ay
section
variable {P:Program} {ops:Array Oper} {Q:Exit→Act→World→Prop} {R:World→World→Prop} {tails:List Nat}
theorem wV{rest:PT}{aa:Nat→Nat→Nat→Act}{C:Nat→Nat→Nat→World→Prop}{G:Prop}(h:(∀x y z V,C x y z V→cP P ops Q R tails rest (aa x y z) V)→G)(key:∀x y z V,C x y z V→cP P ops Q R tails rest (aa x y z) V):G:=h key
end
section
variable {P:Program} {ops:Array Oper} {Q:Exit→Act→World→Prop} {R:World→World→Prop} {tails:List Nat}
theorem HJ{k:Nat}{f:Nat→PT}{a:Act}{w:World}(h:oh P ops Q R tails i (f i) a w)(av:oh P ops Q R tails j (f j) a w)(aV:oh P ops Q R tails k (f k) a w):cP P ops Q R tails (.pick [i,j,k] f) a w:=fun m hm=>by
 simp only[KW,List.not_mem_nil,or_false] at hm;rcases hm with rfl|rfl|rfl
 ·exact h
 ·exact av
 ·exact aV
end
theorem Iu(n:Nat):madeCells #[.int .i64 0] (n*1)=(List.replicate n (Value.int .i64 0)).toArray:=by
 apply Array.toList_inj.1
 rw[rG (f:=cM) (x:=0) (sz:=1) rfl rfl ad n,tL,List.map_replicate]
theorem uE(is:List Int)(n:Nat):splice (List.replicate n (Value.int .i64 0)) 0 (is.map dc)=(is++List.replicate (n - is.length) 0).map dc:=by
 unfold splice;simp[List.map_replicate]
theorem aq.sl{w:World}{l:List Int}(h:aq w g 3 (l.map dc).toArray)(hn:l.length=n){P:Nat→Prop}(aZ:P g):Sl w P (some ⟨g,0,none⟩) n (l.map D.i):=by
 refine⟨by simpa using hn,fun _=>⟨g,0,l.map dc,rfl,aZ,cu l,fun j u hu=>?_⟩⟩;rw[KY,h.cell];simpa using hu
structure GU(W:World)(L l:Nat)(a b c:Nat)(V:World):Prop where
 ext:Ext W V
 ba:aq V a 3 (List.replicate L (Value.int .i64 0)).toArray
 bb:aq V b 3 (List.replicate l (Value.int .i64 0)).toArray
 bc:aq V c 73 #[.int .i64 0,.int .i64 0,.slice none 0 0,.slice none 0 0]
 ab:a≠b
 ac:a≠c
 JF:b≠c
 lo:W.heap.size≤a∧W.heap.size≤b∧W.heap.size≤c
theorem hJ(n:Nat):madeCells #[.int .i64 0] n=(List.replicate n (Value.int .i64 0)).toArray:=by have:=Iu n;rwa [Nat.mul_one] at this
theorem im{V:World}{b ty c:TypeId}{j d a:Array Value}(hV:(((W.alloc (.cells j b)).alloc (.cells d ty)).alloc (.cells a c)).drew=V):Ext W V∧aq V W.heap.size b j∧aq V (W.heap.size+1) ty d∧aq V (W.heap.size+1+1) c a:=by
 subst hV;exact⟨(((Lo.alloc _).alloc _).alloc _).drew,((Lp).alloc _).alloc _,(aq.hL _ _ _ (by simp)).alloc _,aq.hL _ _ _ (by simp)⟩
theorem rQ{P:Program}{w:World}(e f ty elem:TypeId)(hu:P.underlying e=some (.slice elem))(bW:(P.info? elem).map (·.size)=some 1)
  {dp sp:Ls} {c dCap d sCap:Nat} {g:Nat} {cur:List Value} {t:TypeId} (a2:aq w g t cur.toArray) (cs:List Value) (hn:cs.length=Nat.min d c)
  (l:0<cs.length→dp=some ⟨g,0,none⟩∧∃a,sp=some a∧∀j v,cs[j]?=some v→w.cell? (a.add j)=some v)
  (i:cs.length≤cur.length) (ac:∀v∈cs,v.oneCell'=true) :
  ∃ab,(Builtin.copy_ #[e,f] ty #[.slice dp c dCap,.slice sp d sCap]).run P w=.ok (goInt cs.length) ab∧aq ab g t (splice cur 0 cs).toArray∧Fr (fun b=>b=g) w ab:=by
 by_cases h0:cs.length=0
 ·obtain rfl:cs=[]:=List.eq_nil_of_length_eq_zero h0;exact⟨w,run_copy_none w e f ty elem dp sp c dCap d sCap hu bW (by simpa using hn.symm),by simpa[splice] using a2,Lo⟩
 ·obtain⟨rfl,a,rfl,ay⟩:=l ad;exact⟨_,_root_.Go.run_copy_row (P:=P) w e f ty elem g 0 c dCap a d sCap cur.toArray t cs hu bW a2 hn ay (by simpa using i) ac,(show _=_ by simpa[splice] using setRow_heap w g _ _ t _ a2),⟨rfl,rfl,rfl,by simp[World.setRow],fun k ap bf=>setRow_other w g k _ bf⟩⟩
theorem cq.GD{w:World}{B:Nat}{A:Ls}{l:List Int}(h:cq (EF cM) 1 w B A n l):0<(l.map dc).length→∃a,A=some a∧∀j v,(l.map dc)[j]?=some v→w.cell? (a.add j)=some v:=fun h0=>by
 have hl:=h.1;rw[KK] at h0;obtain⟨b,o,bw,_,hc⟩:=h.2 ad;refine⟨_,bw,fun j v bi=>?_⟩;rw[List.getElem?_map] at bi
 cases hx:l[j]? with
 | none=>rw[hx] at bi;cases bi
 | some x=>
  rw[hx] at bi;injection bi with bi;subst bi;obtain⟨cs,rfl,_,Z⟩:=hc j x hx;have:=Z 0 _ rfl;rw[Nat.mul_one,KQ] at this;rw[show (⟨b,o,none⟩:Addr).add j=⟨b,o+j,none⟩ by unfold Addr.add;split<;>simp_all];exact this
def HZ(w:World)(f:al)(e:Ending)(ab:World):Prop:=∃IA i ic S l lc,e=.returned (.agg #[.int .i64 f.proc,.int .i64 f.pc,.slice IA i ic,.slice S l lc])∧(er f).rep ab (fresh w ab) [.int .i64 f.proc,.int .i64 f.pc,.slice IA i ic,.slice S l lc]∧Ext w ab
namespace Cp
theorem eQ(h:p:=by
 refine tf ?_;generalize hV:World.drew (World.alloc _ _)=V;obtain⟨h0,ac,av,aV⟩:=im hV;have hC:GU W L l (W.heap.size+1+1) (W.heap.size) (W.heap.size+1) V:=⟨h0,by rw[←hJ];exact aV,by rw[←hJ];exact ac,av,ad,ad,ad,ad⟩
 clear hV h0 ac av aV;generalize W.heap.size+1+1=cS at hC ⊢;generalize W.heap.size+1=g2 at hC ⊢;generalize W.heap.size=cd at hC ⊢;exact key cS cd g2 _ hC
 ):p:=h
end Cp
open Cp in
theorem mframe(u:ay)(k:Int)(cq:cJ)(is ls:List Int)(IA S:Ls)(i ic l lc:Nat)(w:World)(p:UV)(hu:p.Ok w u)(h0:0≤k)(hp:u.procs[k.toNat]?=some cq)(hl:(is.length:Int)≤cq.locals)(bv:cq.locals≤200)(y:ls.length≤1000)
  (an:Sl w (au w) IA i (is.map D.i)) (bS:Sl w (au w) S l (ls.map D.i)) :
  Calls prog 52 #[.agg (p.val u),.int .i64 k,.slice IA i ic,.slice S l lc] w (HZ w (da u k is ls)):=by
 obtain⟨GA,gn,gc,MA,mn,mc,PA,pn,pc⟩:=p;have bk:=hu.at_.p.1;rw[KK] at bk;have cf:=(List.getElem?_eq_some_iff.1 hp).1;obtain⟨pb,fu,dD,bx,bW,bJ,e,eN,cM,cE,cw,cG,b5,cK,_,_⟩:=hu.at_.proc (k:=k.toNat) ad;simp only at e bk;subst e;rw[hp] at cM;injection cM with cM;subst cM;obtain⟨L,aJ⟩:=KL (a:=cq.locals) ad;rw[aJ] at b5;have cD:is.length=i:=by have:=an.1;simpa using this
 have bO:ls.length=l:=by have:=bS.1;simpa using this
 have hlen:i≤L:=ad;have b9:L≤200:=ad;have bp:l≤1000:=ad;have bX:k<(pn:Int):=ad;have bz:eV u k=L:=by unfold eV;rw[hp];simp[aJ]
 have ca:=aB cD bO bz;have bm:=ag an bS;have N:=fun W=>run_mk de .i64 .i64 L ad ad W;have U:=fun W=>run_mk de .i64 .i64 l ad ad W;have bQ:pb<w.heap.size:=eN;clear hu bk cf eN hp cE cw cG cK aJ cD bO bz an bS hl bv y;dsimp only[UV.val];go_enter func52,ntmps52;go_upto_region 1 with(fail);generalize ba:World.alloc _ _=W;have aw:=iO ba;have aR:=gB ba;have cA:=fZ ba;have dB:=(aw.cell (j:=fu+k.toNat*5+3) bQ fun h=>h).trans b5;have ar:pb<W.heap.size:=KH bQ aw.size;have am:=cA.lt;have ah:=ag aw cA;obtain⟨a0,ai,af⟩:=aR.two;clear ba aw aR cA b5 bQ;refine q4 (fun _=>False) [7,13] (.free 0 (.free 1 (.held 2 (.free 3 (.free 4 (.free 5 (.held 6 (.free 8 (.free 9 (.pick [7,10,12] (fun i=>bif i == 7 then .pick [10,12] (fun i=>bif i == 10 then .free 11 (.pick [12] (fun _=>.pick [13] (fun _=>.stop))) else .pick [10] (fun _=>.free 11 (.pick [13] (fun _=>.stop)))) else bif i == 10 then .pick [7,12] (fun i=>bif i == 7 then .free 11 (.pick [12] (fun _=>.pick [13] (fun _=>.stop))) else .pick [7] (fun _=>.free 11 (.pick [13] (fun _=>.stop)))) else .pick [7,10] (fun i=>bif i == 7 then .pick [10] (fun _=>.free 11 (.pick [13] (fun _=>.stop))) else .pick [7] (fun _=>.free 11 (.pick [13] (fun _=>.stop))))))))))))))) ?_
 iterate 2 refine tf ?_
 refine th ?_
 iterate 3 refine tf ?_
 refine th ?_
 iterate 2 refine tf ?_
 refine wV (P:=?P1) (ops:=?o1) (Q:=?q1) (R:=?r1) (tails:=?t1) (rest:=.pick [13] (fun _=>.stop)) (aa:=?aa) (C:=GU W L l) (fun key=>?main) ?key
 case main=>
  refine HJ ?_ ?_ ?_
  ·
   refine bN rfl (fun K hK=>?_) rfl;go_simp;refine dO hK ?_;clear hK K;refine aY ?_ ?_
   ·
    refine dP ?_;refine tf ?_;refine ao ?_;refine dP ?_;generalize hV:World.drew (World.alloc _ _)=V;obtain⟨h0,ac,av,aV⟩:=im hV;have hC:GU W L l (W.heap.size) (W.heap.size+1) (W.heap.size+1+1) V:=⟨h0,by rw[←hJ];exact ac,by rw[←hJ];exact av,aV,ad,ad,ad,ad⟩
    clear hV h0 ac av aV;generalize W.heap.size+1+1=cS at hC ⊢;generalize W.heap.size+1=g2 at hC ⊢;generalize W.heap.size=cd at hC ⊢;exact key cd g2 cS _ hC
   ·
    refine dP ?_;refine ao ?_;refine dP ?_;refine tf ?_;generalize hV:World.drew (World.alloc _ _)=V;obtain⟨h0,ac,av,aV⟩:=im hV;have hC:GU W L l (W.heap.size) (W.heap.size+1+1) (W.heap.size+1) V:=⟨h0,by rw[←hJ];exact ac,by rw[←hJ];exact aV,av,ad,ad,ad,ad⟩
    clear hV h0 ac av aV;generalize W.heap.size+1+1=cS at hC ⊢;generalize W.heap.size+1=g2 at hC ⊢;generalize W.heap.size=cd at hC ⊢;exact key cd cS g2 _ hC
  ·
   refine dP ?_;refine aY ?_ ?_
   ·
    refine bN rfl (fun K hK=>?_) rfl;go_simp;refine dO hK ?_;clear hK K;refine tf ?_;refine ao ?_;refine dP ?_;generalize hV:World.drew (World.alloc _ _)=V;obtain⟨h0,ac,av,aV⟩:=im hV;have hC:GU W L l (W.heap.size+1) (W.heap.size) (W.heap.size+1+1) V:=⟨h0,by rw[←hJ];exact av,by rw[←hJ];exact ac,aV,ad,ad,ad,ad⟩
    clear hV h0 ac av aV;generalize W.heap.size+1+1=cS at hC ⊢;generalize W.heap.size+1=g2 at hC ⊢;generalize W.heap.size=cd at hC ⊢;exact key g2 cd cS _ hC
   ·
    refine dP ?_;exact fj
  ·
   refine dP ?_;refine aY ?_ ?_
   ·
    refine bN rfl (fun K hK=>?_) rfl;go_simp;refine dO hK ?_;clear hK K;refine ao ?_;refine dP ?_;refine tf ?_;generalize hV:World.drew (World.alloc _ _)=V;obtain⟨h0,ac,av,aV⟩:=im hV;have hC:GU W L l (W.heap.size+1) (W.heap.size+1+1) (W.heap.size) V:=⟨h0,by rw[←hJ];exact av,by rw[←hJ];exact aV,ac,ad,ad,ad,ad⟩
    clear hV h0 ac av aV;generalize W.heap.size+1+1=cS at hC ⊢;generalize W.heap.size+1=g2 at hC ⊢;generalize W.heap.size=cd at hC ⊢;exact key g2 cS cd _ hC
   ·
    refine dP ?_;refine ao ?_;refine bN rfl (fun K hK=>?_) rfl;go_simp;refine dO hK ?_;clear hK K;refine tf ?_;generalize hV:World.drew (World.alloc _ _)=V;obtain⟨h0,ac,av,aV⟩:=im hV;have hC:GU W L l (W.heap.size+1+1) (W.heap.size+1) (W.heap.size) V:=⟨h0,by rw[←hJ];exact aV,by rw[←hJ];exact av,ac,ad,ad,ad,ad⟩
    clear hV h0 ac av aV;generalize W.heap.size+1+1=cS at hC ⊢;generalize W.heap.size+1=g2 at hC ⊢;generalize W.heap.size=cd at hC ⊢;exact key cS g2 cd _ hC
 intro o ck gc V hC;have bR:=ae hC;obtain⟨c0,b1,bt⟩:=hC.bc.two;clear hC a0 ai af N U dB;refine ao ?_;refine bN rfl (fun K hK=>?_) rfl;go_simp;refine dO hK ?_;clear hK K;refine b3 ?_;generalize hX:World.setCell _ _ _=X;obtain⟨bo,b8⟩:=ke 0 [.int .i64 k,.int .i64 0,.slice (some ⟨o,0,none⟩) L L,.slice (some ⟨ck,0,none⟩) l l] bR.bc hX;have aR:aq X gc 73 #[.int .i64 k,.int .i64 0,.slice (some ⟨o,0,none⟩) L L,.slice (some ⟨ck,0,none⟩) l l]:=by simpa[iZ] using bo
 have bw:=bR.ba.on b8 bR.ac;have bs:=bR.bb.on b8 bR.JF;have br:Ext W X:=Fr.low (M:=fun b=>b=gc) (Fr.trans (Fr.mono bR.ext fun _ h=>h.elim) b8) fun b O=>by have:=bR.lo;omega
 have aQ:=bH br bw bs aR;obtain⟨d0,aL,aM⟩:=aR.two;clear hX bo b8 aR bw bs br c0 b1 bt;have bb:Ext w X:=ah.1.trans aQ.1;have bq:=ah.2.ai aQ.1;have Y:=(bm.1.on (Fr.ext bb)).ints;have g:=ca.1;have m:=ca.2.1;have T:(is.map dc).length=Nat.min i L:=by rw[KK];simp only[Nat.min_def];split<;>omega
 have r:=Y.GD;have I:(is.map dc).length≤(List.replicate L (Value.int .i64 0)).length:=by simp;omega
 have z:=cI aQ.2.1 aQ.2.2.1 aQ.2.2.2 bb bq;have f:=cI T r I g m;clear bb bq Y T r I g m;obtain⟨aT,G,bg,az⟩:=rQ (P:=prog) 22 22 3 3 Tryz.underlying22 (by kernel_rfl) (dp:=some ⟨o,0,none⟩) (dCap:=L) (sp:=IA) (sCap:=ic) z.1 (is.map dc) f.1 (fun h=>⟨rfl,f.2.1 h⟩) f.2.2.1 (by simp[Value.oneCell']);have bc:=z.2.2.1.on az (Ne.symm bR.ac);have bG:=aB bg az bc;clear bg az;obtain⟨e0,a6,aP⟩:=bc.two;clear bc;have bB:Ext w aT:=Fr.low (M:=fun b=>b=o) (Fr.trans (Fr.mono z.2.2.2.1 fun _ h=>h.elim) bG.2.1) fun b O=>by have:=bR.lo;have:=ah.1.size;omega
 have ab:=(bm.2.on (Fr.ext bB)).ints;have F:=ab.GD;have bY:(ls.map dc).length=Nat.min l l:=by rw[KK];have:=f.2.2.2.2;simp only[Nat.min_def];split<;>omega
 have J:(ls.map dc).length≤(List.replicate l (Value.int .i64 0)).length:=by have:=f.2.2.2.2;simp;omega
 have bF:=z.2.1.on bG.2.1 (Ne.symm bR.ab);have cX:=cI bY F J bF bB;clear bB ab F bY J bF;obtain⟨b6,H,bg,az⟩:=rQ (P:=prog) 22 22 3 3 Tryz.underlying22 (by kernel_rfl) (dp:=some ⟨ck,0,none⟩) (dCap:=l) (sp:=S) (sCap:=lc) cX.2.2.2.1 (ls.map dc) cX.1 (fun h=>⟨rfl,cX.2.1 h⟩) cX.2.2.1 (by simp[Value.oneCell']);have bc:=bG.2.2.on az (Ne.symm bR.JF);have bT:=aB bg az bc;clear bg az;obtain⟨f0,dL,dN⟩:=bc.two;clear bc;have cF:=(z.2.2.2.2.on bG.2.1 (aD bR.lo)).on bT.2.1 (aD bR.lo);have ds:Ext w b6:=Fr.low (M:=fun b=>b=ck) (Fr.trans (Fr.mono cX.2.2.2.2 fun _ h=>h.elim) bT.2.1) fun b O=>by have:=bR.lo;have:=ah.1.size;omega
 have aW:=ag cF ds;obtain⟨bl,aA,aO⟩:=cF.two;clear cF ds;go_wp2_with(fail);generalize hX:World.setCell _ _ _=Z;obtain⟨bh,a9,be⟩:=bA (w:=w) [.int .i64 k,.int .i64 0,.slice (some ⟨o,0,none⟩) L L,.slice (some ⟨ck,0,none⟩) l l] (by rfl) aW.1 aW.2 ad hX;have bd:=ag a9 be;clear hX a9 be bl aA aO d0 aL aM e0 a6 aP f0 dL dN G H;obtain⟨bl,aA,aO⟩:=bh.two;refine Ln (v:=.agg #[.int .i64 k,.int .i64 0,.slice (some ⟨o,0,none⟩) L L,.slice (some ⟨ck,0,none⟩) l l]) (by simp[results,Tryz.results52,go_sem,bl]) rfl ?_;have bv:=bR.lo;have ak:=ah.2.lt;have al:=(bG.1.on bT.2.1 bR.ab).on bd.2 ad;have ap:=bT.1.on bd.2 ad;rw[uE] at al ap;have aj:=ca.2.2;have aI:=al.lt;have bp:=ap.lt;have s:da u k is ls=⟨k,0,is++List.replicate (L - is.length) 0,ls⟩:=by unfold da;rw[aj]
 rw[s];refine⟨some ⟨o,0,none⟩,L,L,some ⟨ck,0,none⟩,l,l,rfl,ga.2 ⟨_,_,_,_,_,_,rfl,KG _,KG _,al.sl (by have:=ca.1;simp;omega) ⟨ad,aI⟩,?_⟩,bd.1⟩;have:=ap.sl (n:=l) (P:=fresh w Z) (by have:=ca.2.1;simp;omega) ⟨ad,bp⟩
 rwa [show l - ls.length=0 by have:=ca.2.1;omega,List.replicate_zero,Lg] at this
end Go.Proofs.YtnhhdaggkiomoaaGreat
