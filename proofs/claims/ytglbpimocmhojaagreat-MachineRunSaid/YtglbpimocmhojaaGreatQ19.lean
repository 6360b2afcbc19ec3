/- Part 19 of the proof. No condition of its own. -/
import Derived.Test.YtglbpimocmhojaaGreatQ18
namespace Go.Proofs.YtglbpimocmhojaaGreat
open Go.RowKit Go.Proofs.Tryz
set_option maxRecDepth 1000000
set_option maxHeartbeats 25600000
set_option linter.unusedVariables false
variable{nl t:Int}{O bn fc hn l lc n tn:Nat}{HA S TA:Lp}{p:Prop}{x:az}
structure q0(w:World)(s:aj)(t:Int)(f:al)(O bn hn ch c5 n fc:Nat)(IA:Lp)(i ic:Nat)(S:Lp)(l lc:Nat):Prop where
 fault:s.fault=0
 t0:0<=t
 tn:t<hn
 lb:O<w.heap.size
 lf:ch<w.heap.size
 cell:w.cell? ⟨O,bn+t.toNat,none⟩=some (.slice (some ⟨ch,c5,none⟩) (n+1) fc)
 c0:w.cell? ⟨ch,c5+n*4,none⟩=some (.int .i64 f.proc)
 c1:w.cell? ⟨ch,c5+n*4+1,none⟩=some (.int .i64 f.pc)
 c2:w.cell? ⟨ch,c5+n*4+2,none⟩=some (.slice IA i ic)
 c3:w.cell? ⟨ch,c5+n*4+3,none⟩=some (.slice S l lc)
 J2:i<=ic
 lcs:l<=lc
 ints:Sl w (av w) IA i (f.ints.map D.i)
 au:Sl w (av w) S l (f.au.map D.i)
 th:∃fs,s.threads[t.toNat]?=some (fs++[f])/\fs.length=n
 n1:n+1<=fc
 nb:n<=1000000
theorem q0.on{w ab:World}{s:aj}{t:Int}{f:al}{O bn hn ch c5 n fc:Nat}{IA:Lp}{i ic:Nat}{S:Lp}{l lc:Nat}(h:q0 w s t f O bn hn ch c5 n fc IA i ic S l lc)(he:Ext w ab):q0 ab s t f O bn hn ch c5 n fc IA i ic S l lc:=
 ⟨h.fault,h.t0,h.tn,KE h.lb he.size,KE h.lf he.size,(he.cell h.lb λh=>h).trans h.cell,(he.cell h.lf λh=>h).trans h.c0,(he.cell h.lf λh=>h).trans h.c1,(he.cell h.lf λh=>h).trans h.c2,(he.cell h.lf λh=>h).trans h.c3,h.J2,h.lcs,h.ints.on (Fr.ext he),h.au.on (Fr.ext he),h.th,h.n1,h.nb⟩
theorem lD.top{w:World}{s:aj}{GA:Lp}{gn:Nat}(h:lD w (av w) s GA gn TA tn HA hn)(a1:Small s){f:al}(ht:eg s t=some f):
  ∃O bn ch c5 n fc IA i ic S l lc,HA=some ⟨O,bn,none⟩/\q0 w s t f O bn hn ch c5 n fc IA i ic S l lc:=by
 obtain⟨h0,ac,fs,bv⟩:=jI ht;have hl:=h.h.1;rw[KH] at hl;have ap:=(List.getElem?_eq_some_iff.1 bv).1;obtain⟨O,bn,c7,FA,m,fc,rfl,T,r,hc,hm,J⟩:=h.h.lz (k:=t.toNat) ad;rw[bv] at r;injection r with r;subst r;have ce:=J.1;simp at ce;obtain⟨ch,c5,a6,IA,i,ic,S,l,lc,rfl,cw,G,c0,c1,c2,c3,au,aU,bE,cF⟩:=J.pM (k:=fs.length) ad;simp at G;subst G;subst ce;exact⟨O,bn,ch,c5,fs.length,fc,IA,i,ic,S,l,lc,rfl,h0,ac,ad,T,cw,hc,c0,c1,c2,c3,au,aU,bE,cF,⟨fs,bv,rfl⟩,hm,by have:=(a1.f _ (KG bv)).1;simp at this;omega⟩
theorem xB(o c:Value)(O bn hn hc ch c5 n fc:Nat)(t:Int)(w:World)(h0:0<=t)(ak:t<hn)(dm:O<w.heap.size)(a4:w.cell? ⟨O,bn+t.toNat,none⟩=some (.slice (some ⟨ch,c5,none⟩) (n+1) fc))(ap:n<=1000000) :
  Calls prog 33 #[.agg #[o,c,.slice (some ⟨O,bn,none⟩) hn hc,.int .i64 0],.int .i64 t] w λe ab=>e=.returned (.pointer (some ⟨ch,c5+n*4,none⟩))/\Ext w ab:=by
 have q1:decide (t<0)=false:=by simp;omega
 have cI:decide (t>=hn)=false:=by simp;omega
 have dd:(((n+1:Nat):Int) == 0)=false:=by simp;omega
 exact ts
theorem rR{w:World}{s:aj}{GA:Lp}{gn:Nat}(h:lD w (av w) s GA gn TA tn HA hn)(ht:eg s t=none):
  s.fault≠0\/t<0\/(hn:Int)<=t\/(0<=t/\t<hn/\∃O bn FA fc,HA=some ⟨O,bn,none⟩/\O<w.heap.size/\w.cell? ⟨O,bn+t.toNat,none⟩=some (.slice FA 0 fc)):=by
 by_cases h0:s.fault≠0
 .exact .inl h0
 by_cases ac:t<0
 .exact .inr (.inl ac)
 by_cases au:(hn:Int)<=t
 .exact .inr (.inr (.inl au))
 refine .inr (.inr (.inr ⟨ad,ad,?_⟩));obtain⟨O,bn,fs,FA,m,fc,rfl,T,bv,hc,hm,J⟩:=h.h.lz (k:=t.toNat) ad;unfold eg at ht;rw[if_neg ad,bv] at ht;have bW:fs=[]:=by simpa using ht
 have ce:=J.1;rw[bW] at ce;simp at ce;subst ce;exact⟨O,bn,FA,fc,rfl,T,hc⟩
theorem yq(s:aj)(GA TA HA:Lp)(gn gc tn tc hn hc:Nat)(t:Int)(w:World)(h:lD w (av w) s GA gn TA tn HA hn)(ht:eg s t=none) :
  Calls prog 33 #[.agg #[.slice GA gn gc,.slice TA tn tc,.slice HA hn hc,.int .i64 s.fault],.int .i64 t] w λe ab=>e=.returned (.pointer none)/\Ext w ab:=by
 have f:=rR h ht;clear h ht;generalize bt:s.fault=z at *;clear bt;by_cases h0:z=0
 case neg=>
  have b7:(z != 0)=true:=by simpa using h0
  clear f h0;exact ts
 subst h0;rcases f with h|h|h|⟨ac,au,O,bn,FA,fc,rfl,T,a4⟩
 .exact absurd rfl h
 .have q1:decide (t<0)=true:=by simpa using h
  clear h;exact ts
 .have q1:decide (t<0)=false:=by simp;omega
  have cI:decide (t>=hn)=true:=by simpa using h
  clear h;exact ts
 .have q1:decide (t<0)=false:=by simp;omega
  have cI:decide (t>=hn)=false:=by simp;omega
  exact ts
theorem k2{w:World}{s:aj}{f:al}{ch c5:Nat}{IA:Lp}{i ic:Nat}(h:q0 w s t f O bn hn ch c5 n fc IA i ic S l lc)(o c:Value)(hc:Nat):
  Calls prog 33 #[.agg #[o,c,.slice (some ⟨O,bn,none⟩) hn hc,.int .i64 s.fault],.int .i64 t] w λe ab=>e=.returned (.pointer (some ⟨ch,c5+n*4,none⟩))/\Ext w ab:=by
 rw[h.fault];exact xB o c O bn hn hc ch c5 n fc t w h.t0 h.tn h.lb h.cell h.nb
namespace B5
theorem lJ(h:p:=by
 obtain⟨a0,ai,af⟩:=aR.two;obtain⟨bl,aA,aO⟩:=cA.two;replace a4:=(aw.cell (j:=bn+t.toNat) dm λh=>h).trans a4
 replace c0:=(aw.cell (j:=c5+n*4) cw λh=>h).trans c0
 replace c1:=(aw.cell (j:=c5+n*4+1) cw λh=>h).trans c1
 replace c2:=(aw.cell (j:=c5+n*4+2) cw λh=>h).trans c2
 replace c3:=(aw.cell (j:=c5+n*4+3) cw λh=>h).trans c3
 obtain⟨bq,aW⟩:=aH aw cA;clear ba aw aR cA dm cw;go_wp2_with(fail);generalize hX:World.setCell _ _ _=X;obtain⟨bz,bp,b5⟩:=bA (w:=w) [.int .i64 f.proc,.int .i64 f.pc,.slice IA i ic,.slice S l lc] (by rfl) aW.o bq.o ad hX;have aQ:=ae bp;clear hX bp b5 a0 ai af bl aA aO c0 c1 c2 c3 a4;obtain⟨bl,aA,aO⟩:=bz.two;refine Lk (v:=.tuple #[.agg #[.int .i64 f.proc,.int .i64 f.pc,.slice IA i ic,.slice S l lc],.bool true]) (by simp[results,Tryz.results56,go_sem,bl]) rfl ?_;exact⟨rfl,aQ.o⟩
 ):p:=h
end B5
open B5 in
theorem ny{w:World}{s:aj}{f:al}{ch c5:Nat}{IA:Lp}{i ic:Nat}(h:q0 w s t f O bn hn ch c5 n fc IA i ic S l lc)(o c:Value)(hc:Nat):
  Calls prog 56 #[.agg #[o,c,.slice (some ⟨O,bn,none⟩) hn hc,.int .i64 s.fault],.int .i64 t] w λe ab=>e=.returned (.tuple #[.agg #[.int .i64 f.proc,.int .i64 f.pc,.slice IA i ic,.slice S l lc],.bool true])/\Ext w ab:=by
 obtain⟨ac,h0,ak,dm,cw,a4,c0,c1,c2,c3,_,_,_,_,_,_,ap⟩:=h;rw[ac];have q1:decide (t<0)=false:=by simp;omega
 have cI:decide (t>=hn)=false:=by simp;omega
 have dd:(((n+1:Nat):Int) == 0)=false:=by simp;omega
 clear ac;go_enter func56,ntmps56;exact lI
namespace B6
theorem lJ(h:p:=by
 obtain⟨a0,ai,af⟩:=aR.two;obtain⟨bl,aA,aO⟩:=cA.two;replace a4:=(aw.cell (j:=bn+t.toNat) T λh=>h).trans a4
 have bq:=ah aw cA;clear ba aw aR cA;by_cases hm:m=0
 .subst hm;clear dF;exact AW
 .have dd:((m:Int) == 0)=false:=by simp;omega
  have df:(z != 0)=true:=by simpa using dF.resolve_left hm
  clear dF hm;exact AW
 ):p:=h
end B6
open B6 in
theorem yB(s:aj)(GA TA HA:Lp)(gn gc tn tc hn hc:Nat)(t:Int)(w:World)(h:lD w (av w) s GA gn TA tn HA hn)(ht:eg s t=none) :
  Calls prog 56 #[.agg #[.slice GA gn gc,.slice TA tn tc,.slice HA hn hc,.int .i64 s.fault],.int .i64 t] w λe ab=>e=.returned (.tuple #[.agg #[.int .i64 0,.int .i64 0,.slice none 0 0,.slice none 0 0],.bool false])/\Ext w ab:=by
 have f:t<0\/(hn:Int)<=t\/(0<=t/\t<hn/\∃O bn FA m fc,HA=some ⟨O,bn,none⟩/\O<w.heap.size/\w.cell? ⟨O,bn+t.toNat,none⟩=some (.slice FA m fc)/\(m=0\/s.fault≠0)):=by
  by_cases ac:t<0
  .exact .inl ac
  by_cases au:(hn:Int)<=t
  .exact .inr (.inl au)
  refine .inr (.inr ⟨ad,ad,?_⟩);obtain⟨O,bn,fs,FA,m,fc,rfl,T,bv,hc,hm,J⟩:=h.h.lz (k:=t.toNat) ad;refine⟨O,bn,FA,m,fc,rfl,T,hc,?_⟩;rcases rR h ht with aU|aU|aU|⟨_,_,aV,cg,cR,co,he,_,a3⟩
  .exact .inr aU
  .omega
  .omega
  .injection he with he;injection he with ar bw;subst ar bw;rw[hc] at a3;injection a3 with a3;injection a3 with _ a3 _;exact .inl a3
 clear h ht;generalize bt:s.fault=z at *;clear bt;rcases f with h|h|⟨ac,au,O,bn,FA,m,fc,rfl,T,a4,dF⟩
 .have q1:decide (t<0)=true:=by simpa using h
  exact F7
 .have q1:decide (t<0)=false:=by simp;omega
  have cI:decide (t>=hn)=true:=by simpa using h
  exact F7
 .have q1:decide (t<0)=false:=by simp;omega
  have cI:decide (t>=hn)=false:=by simp;omega
  go_enter func56,ntmps56;exact lI
structure UV where
 GA:Option Addr
 gn:Nat
 gc:Nat
 MA:Option Addr
 mn:Nat
 mc:Nat
 PA:Option Addr
 pn:Nat
 pc:Nat
structure SV where
 GA:Option Addr
 gn:Nat
 gc:Nat
 TA:Option Addr
 tn:Nat
 tc:Nat
 HA:Option Addr
 hn:Nat
 hc:Nat
abbrev UV.val(p:UV)(u:ay):Array Value:=#[.slice p.GA p.gn p.gc,.slice p.MA p.mn p.mc,.slice p.PA p.pn p.pc,.int .i64 u.main]
abbrev SV.val(q:SV)(s:aj):Array Value:=#[.slice q.GA q.gn q.gc,.slice q.TA q.tn q.tc,.slice q.HA q.hn q.hc,.int .i64 s.fault]
structure UV.Ok(p:UV)(w:World)(u:ay):Prop where
 at_:hq w (av w) u p.GA p.gn p.MA p.mn p.PA p.pn
 gc:p.gn<=p.gc
 mc:p.mn<=p.mc
 pc:p.pn<=p.pc
structure SV.Ok(q:SV)(w:World)(s:aj):Prop where
 at_:lD w (av w) s q.GA q.gn q.TA q.tn q.HA q.hn
 gc:q.gn<=q.gc
 tc:q.tn<=q.tc
 hc:q.hn<=q.hc
theorem UV.Ok.on{p:UV}{w ab:World}{u:ay}(h:p.Ok w u)(he:Ext w ab):p.Ok ab u:=⟨h.at_.on he,h.gc,h.mc,h.pc⟩
theorem SV.Ok.on{q:SV}{w ab:World}{s:aj}(h:q.Ok w s)(he:Ext w ab):q.Ok ab s:=⟨h.at_.on he,h.gc,h.tc,h.hc⟩
theorem lR{u:ay}(hU:cZ u):elems u.af<=5000:=by
 have ac:=eu u.af;have au:=cA hU.yp;omega
theorem aV.small{u:ay}{N:Nat}{s:aj}(hU:cZ u)(h:aV u N s)(hD:N<=100000):Small s:=by
 refine⟨by have:=h.dg;have:=hU.nY;omega,by have:=h.table;have:=cA hU.yp;omega,by have:=h.yO;omega,λt ht=>⟨by have:=(h.fm t ht).1;omega,λf J=>?_⟩⟩;obtain⟨p,hp,_,ac,au⟩:=((h.fm t ht).2 f J).ex;have:=hU.procs p (KG hp);have:=this.ints;have:=(hU.procs p (KG hp)).au;omega
section
variable {u:ay} {N:Nat} {s:aj} {f:al} {cq:cH} {pl:bQ} {w:World} {GA MA IA QA:Lp} {gn gc mn mc i ic qm qc:Nat}
theorem DC(hU:cZ u)(hS:aV u N s)(hF:cc u f)(hp:u.procs[f.proc.toNat]?=some cq)(hx:cU (bx u) cq.locals cq.au pl)(j:pl.param=false)
  (hm:Sl w (av w) MA mn (u.af.map ey)) (a2:Sl w (av w) GA gn (s.globals.map D.i)) (an:Sl w (av w) IA i (f.ints.map D.i)) (bv:(di pl).rep w (av w) [.bool pl.param,.int .i64 pl.index,.slice QA qm qc]) :
  (qm=0/\cQ u s f pl=(0,0))\/∃(e:VE) (k:Nat) (m:bG) (b o:Nat) (c0 c1 c2 c3:Value),QA=some ⟨b,o,none⟩/\qm=1/\pl.index=(k:Nat)/\yR w MA mn u.af GA IA gn i s.globals f.ints e k m b o c0 c1 c2 c3/\nK s.globals f.ints e/\cQ u s f pl=idx m.size (ev s.globals f.ints e):=by
 rcases hx with⟨ac,_⟩|⟨_,m,au,aU,bE,cF⟩
 .rw[j] at ac;cases ac
 obtain⟨A2,n2,c2,e,_,hs⟩:=dT.1 bv;simp only[List.cons.injEq,and_true,true_and] at e;injection e with b0 ct a7;subst b0 ct a7;have aQ:u.af[pl.index.toNat]?=some m:=aU;by_cases bt:0<m.size
 .obtain⟨x,hx,qL⟩:=bE bt;right;rw[hx] at hs;simp only[Option.toList_some,KJ,Lb] at hs;obtain rfl:qm=1:=hs.1.symm;obtain⟨b,o,bs,Z,bA,E,rfl,O,a5,c0,c1,c2,c3⟩:=hs.DU (c7 x);obtain⟨bn,n,_⟩:=xu hS hF hp qL;have ry:=a2.1;have aI:=an.1;have dH:=hm.1;rw[KH] at ry aI dH;have ap:=(List.getElem?_eq_some_iff.1 aQ).1;refine⟨x,pl.index.toNat,m,b,o,bs,Z,bA,E,rfl,rfl,ad,⟨⟨a2.ints,an.ints,by rw[<-ry,<-aI];exact bn,kt x _ a5⟩,hm.om,ad,aQ,O,c0,c1,c2,c3⟩,n,?_⟩;unfold cQ;rw[hx,aQ];rfl
 .left;rw[cF bt] at hs;refine⟨hs.1.symm,?_⟩;unfold cQ;rw[cF bt]
theorem Hl(hU:cZ u)(hS:aV u N s)(hF:cc u f)(hp:u.procs[f.proc.toNat]?=some cq)(hx:cU (bx u) cq.locals cq.au pl)(j:pl.param=false)
  (hm:Sl w (av w) MA mn (u.af.map ey)) (a2:Sl w (av w) GA gn (s.globals.map D.i)) (an:Sl w (av w) IA i (f.ints.map D.i)) (bv:(di pl).rep w (av w) [.bool pl.param,.int .i64 pl.index,.slice QA qm qc]) :
  Calls prog 60 #[.agg #[.bool false,.int .i64 pl.index,.slice QA qm qc],.slice MA mn mc,.slice GA gn gc,.slice IA i ic] w (fY w (cQ u s f pl)):=by
 rcases DC hU hS hF hp hx j hm a2 an bv with⟨rfl,h⟩|⟨e,k,m,b,o,c0,c1,c2,c3,rfl,rfl,ap,hI,_,h⟩
 .rw[h];exact uS _ _ _ _ _ _ _ _
 .rw[h,ap];exact xX _ _ _ _ _ _ _ _ _ _ _ _ _ _ _ _ _ _ _ _ _ _ _ hI
theorem Hv(hU:cZ u)(hS:aV u N s)(hF:cc u f)(hp:u.procs[f.proc.toNat]?=some cq)(hx:cU (bx u) cq.locals cq.au pl)(j:pl.param=false)
  (hm:Sl w (av w) MA mn (u.af.map ey)) (a2:Sl w (av w) GA gn (s.globals.map D.i)) (an:Sl w (av w) IA i (f.ints.map D.i)) (bv:(di pl).rep w (av w) [.bool pl.param,.int .i64 pl.index,.slice QA qm qc]) :
  Calls prog 62 #[.agg #[.bool false,.int .i64 pl.index,.slice QA qm qc],.slice MA mn mc,.slice GA gn gc,.slice IA i ic] w (fY w (cQ u s f pl)):=by
 rcases DC hU hS hF hp hx j hm a2 an bv with⟨rfl,h⟩|⟨e,k,m,b,o,c0,c1,c2,c3,rfl,rfl,ap,hI,n,h⟩
 .rw[h];exact qW _ _ _ _ _ _ _ _
 .rw[h,ap];exact sU _ _ _ _ _ _ _ _ _ _ _ _ _ _ _ _ _ _ _ _ _ _ _ hI n
end
theorem iw{u:ay}{s:aj}{f:al}{pl:bQ}(h:eg s t=some f):xr u s t pl=bF u s f pl:=by unfold xr;rw[h]
theorem rj{u:ay}{s:aj}{f:al}{pl:bQ}(h:pl.param=true):bF u s f pl=(f.au.getD pl.index.toNat 0,0):=by unfold bF;rw[if_pos h]
theorem x7{u:ay}{s:aj}{f:al}{pl:bQ}(h:pl.param=false)(J:(cQ u s f pl).2≠0):bF u s f pl=(0,(cQ u s f pl).2):=by unfold bF;rw[if_neg (by simp[h]),if_pos J]
theorem pB{u:ay}{s:aj}{f:al}{pl:bQ}(h:pl.param=false)(J:(cQ u s f pl).2=0):bF u s f pl=(eR u.af pl.index+(cQ u s f pl).1,0):=by unfold bF;rw[if_neg (by simp[h]),if_neg ad]
theorem Dj{u:ay}{s:aj}{f:al}{pl:bQ}{nk:Int}(hU:cZ u)(hF:cc u f)(ap:nk<=f.au.length)(hx:cU (bx u) nl nk pl)(h:pl.param=false)(J:(cQ u s f pl).2=0):
  0<=eR u.af pl.index+(cQ u s f pl).1/\eR u.af pl.index+(cQ u s f pl).1<=5000:=by
 have ac:=(jt (s:=s) hU hF ap hx).2;rw[pB h J] at ac;have:=lR hU;have:=ac rfl;simp only at this;omega
theorem DY{u:ay}{f:al}{pl:bQ}{w:World}(hx:cU (bx u) nl f.au.length pl)(h:pl.param=true)(hl:Sl w (av w) S l (f.au.map D.i)):
  0<=pl.index/\pl.index<l/\∃b o,S=some ⟨b,o,none⟩/\b<w.heap.size/\w.cell? ⟨b,o+pl.index.toNat,none⟩=some (.int .i64 (f.au.getD pl.index.toNat 0)):=by
 rcases hx with⟨_,ac,au,_⟩|⟨ac,_⟩
 .have hn:=hl.1;rw[KH] at hn;obtain⟨b,o,x,bw,O,hx,hc⟩:=hl.ints.int (k:=pl.index.toNat) ad;refine⟨ac,ad,b,o,bw,O,?_⟩;rw[List.getD_eq_getElem?_getD,hx];exact hc
 .rw[h] at ac;cases ac
structure HU(u:ay)(s:aj)(t:Int)(f:al)(pl:bQ)(N:Nat)(w:World)(p:UV)(q:SV)(QA:Lp)(qm qc:Nat):Prop where
 hU:cZ u
 hS:aV u N s
 sm:Small s
 ht:eg s t=some f
 hx:∃cq,u.procs[f.proc.toNat]?=some cq/\cU (bx u) cq.locals cq.au pl
 u:p.Ok w u
 s:q.Ok w s
 pl:(di pl).rep w (av w) [.bool pl.param,.int .i64 pl.index,.slice QA qm qc]
theorem cc.sM{u:ay}{f:al}{cq:cH}(hF:cc u f)(hp:u.procs[f.proc.toNat]?=some cq):(f.au.length:Int)=cq.au:=by
 obtain⟨p,h,_,_,au⟩:=hF.ex;rw[hp] at h;injection h with h;rw[h];exact au
namespace B7
theorem Ae(h:p:=by
 clear k an o a3 bg a0 ai af a8 am aF d0 aL aM c2 c3;obtain⟨a0,ai,af⟩:=((ag.2.1.ai a4.1).ai a4.2).two;obtain⟨d0,aL,aM⟩:=((ag.2.2.2.1.ai a4.1).ai a4.2).two;refine dO hK ?_;clear hK K
 iterate 5 refine pf ?_
 refine aE ?_;by_cases bt:z=0
 .have q5:(z != 0)=false:=by simpa using bt
  have a1:=bo.1 bt;have cC:=ae (bo.2.2 bt);subst bt;generalize aR:eR u.af pl.index=B at *;have b1:=ae aR;clear aR bo;go_wp2_with(fail);refine(C9 MA mn mc u.af pl.index aT ((ag.2.2.2.2.1.on a4.1).on a4.2).at_.m.om aQ.1.yp cj).mono ?_;rintro e bX ⟨rfl,co⟩;rw[b1.o];have a9:=ae (((ag.1.trans a4.1).trans a4.2).trans (Fr.of co));clear co a0 ai af d0 aL aM;go_wp2
  go_ret2
  exact fY.mk' cC.o (Fr.ext a9.o)
 .have q5:(z != 0)=true:=by simpa using bt
  have cC:=ae (bo.2.1 bt);clear bt bo;go_wp2_with(fail)
  go_ret2
  exact fY.mk' cC.o (Fr.ext ((ag.1.trans a4.1).trans a4.2))
 ):p:=h
theorem zV(h:p:=by
 refine(k2 aa.o _ _ _).mono ?_;rintro e aS ⟨rfl,aN⟩;have ab:=ae (aa.on aN);have bu:=ae aN;clear a0 ai af a8 am aF d0 aL aM;obtain⟨a0,ai,af⟩:=(ag.2.1.ai aN).two;obtain⟨a8,am,aF⟩:=(ag.2.2.1.ai aN).two;obtain⟨d0,aL,aM⟩:=(ag.2.2.2.1.ai aN).two;have cw:=ab.lf;have c2:=ab.c2;have c3:=ab.c3;clear aN aa
 cases j:pl.param with
 | true=>
  rw[j] at d0;obtain⟨f1,cY,lb,lo,rfl,bj,a2⟩:=DY aQ.2.2.2.2.2 j ab.au;have ap:=rj (u:=u) (s:=s) (f:=f) j;generalize hV:f.au.getD pl.index.toNat 0=V at *;have aW:=ae ap;have q1:decide (pl.index<0)=false:=by simp;omega
  have cI:decide (pl.index>=l)=false:=by simp;omega
  clear ap hV;go_upto_region 5 with(fail);refine eK (λ_=>False) [(0,3),(1,0),(2,3),(3,3),(4,3),(5,0),(6,3),(7,3),(8,3),(9,0),(10,3),(11,3),(12,3)] ?_;refine pf ?_;refine ph ?_
  iterate 3 refine pf ?_
  refine ph ?_
  iterate 3 refine pf ?_
  refine ph ?_
  iterate 3 refine pf ?_
  refine aE ?_;go_upto_region 7 with(fail);refine eK (λ_=>False) [(0,3),(1,3),(2,3),(3,0),(4,3),(5,0),(6,3),(7,0),(8,3),(9,3)] ?_
  iterate 3 refine pf ?_
  refine bO (v:=?_) rfl (by rfl) (λV hV=>?_) ?_;rotate_left
  .obtain⟨hVc,hVf⟩:=Fr.jk hV
   (go_simp<;>with_reducible rfl)
  try simp only[PU]
  refine pf ?_;refine bO (v:=?_) rfl (by rfl) (λV hV=>?_) ?_;rotate_left
  .obtain⟨hVc,hVf⟩:=Fr.jk hV
   (go_simp<;>with_reducible rfl)
  try simp only[PU]
  refine pf ?_;refine bO (v:=?_) rfl (by rfl) (λV hV=>?_) ?_;rotate_left
  .obtain⟨hVc,hVf⟩:=Fr.jk hV
   (go_simp<;>with_reducible rfl)
  try simp only[PU]
  iterate 2 refine pf ?_
  refine aE ?_;go_wp2_with(fail)
  go_ret2
  exact fY.mk' aW.o (Fr.ext ((ag.1.trans bu.o).drew.drew))
 | false=>
  rw[j] at d0;go_upto_region 8 with(fail);refine eK (λ_=>False) [(0,0),(1,3),(2,0),(3,3),(4,0),(5,3),(6,3),(7,3),(8,0),(9,2),(10,3),(11,3),(12,3),(13,3),(14,3)] ?_;refine ph ?_;refine pf ?_;refine ph ?_;refine pf ?_;refine ph ?_
  iterate 3 refine pf ?_
  refine ph ?_;refine ax rfl (λK hK=>?_);go_simp;have a3:Ext W aS.drew:=bu.drew;refine(Hl (u:=u) (s:=s) (f:=f) (pl:=pl) aQ.1 aQ.2.1 aQ.2.2.1 aQ.2.2.2.1 aQ.2.2.2.2.1 j (ag.2.2.2.2.1.on a3).at_.m (ag.2.2.2.2.2.1.on a3).at_.g (ab.on Ll.drew).ints (D.on ag.2.2.2.2.2.2 (Fr.ext a3))).mono ?_;rintro e aT ⟨rfl,bg⟩;have a4:=ah a3 (Fr.of (M:=λ_=>False) bg);exact Ad
 ):p:=h
theorem AH(h:p:=by
 have cj:=hu.mc;simp only at cj;have aQ:=cS hU hS hF hp hx r;dsimp only[UV.val,SV.val];go_enter func19,ntmps19;exact zU
 ):p:=h
theorem hv(h:p:=by
 exact AG
 ):p:=h
end B7
open B7 in
theorem pT(u:ay)(s:aj)(t:Int)(f:al)(pl:bQ)(N:Nat)(w:World)(p:UV)(q:SV)(QA:Lp)(qm qc:Nat)(h:HU u s t f pl N w p q QA qm qc) :
  Calls prog 19 #[.agg (p.val u),.agg (q.val s),.int .i64 t,.agg #[.bool pl.param,.int .i64 pl.index,.slice QA qm qc]] w (fY w (xr u s t pl)):=by
 obtain⟨hU,hS,a1,ht,⟨cq,hp,hx⟩,hu,hs,bv⟩:=h;exact hr
namespace B8
theorem Ae(h:p:=by
 clear k an o bg a0 ai af a8 am aF d0 aL aM e0 a6 aP;obtain⟨a0,ai,af⟩:=((ag.2.1.ai a4.1).ai a4.2).two;obtain⟨d0,aL,aM⟩:=((ag.2.2.2.1.ai a4.1).ai a4.2).two;by_cases bt:z=0
 .have q5:(z != 0)=false:=by simpa using bt
  have a1:=bo.1 bt;have cC:=ae (bo.2.2 bt);subst bt;generalize aR:eR u.af pl.index=B at *;have b1:=ae aR;clear aR bo;go_wp2_with(fail);refine(uh MA mn mc u.af pl.index aT ((ag.2.2.2.2.1.on a4.1).on a4.2).at_.m.om aQ.1.yp).mono ?_;rintro e bX ⟨rfl,co⟩;rw[b1.o];have a9:=ae (((ag.1.trans a4.1).trans a4.2).trans (Fr.of co));clear co a0 ai af d0 aL aM;go_wp2
  go_ret2
  exact fY.mk' cC.o (Fr.ext a9.o)
 .have q5:(z != 0)=true:=by simpa using bt
  have cC:=ae (bo.2.1 bt);clear bt bo;go_wp2_with(fail)
  go_ret2
  exact fY.mk' cC.o (Fr.ext ((ag.1.trans a4.1).trans a4.2))
 ):p:=h
theorem zV(h:p:=by
 refine(ny aa.o _ _ _).mono ?_;rintro e aS ⟨rfl,aN⟩;have ab:=ae (aa.on aN);have bu:=ae aN;clear a0 ai af a8 am aF d0 aL aM aN aa;obtain⟨a0,ai,af⟩:=(ag.2.1.ai bu.o).two;obtain⟨a8,am,aF⟩:=(ag.2.2.1.ai bu.o).two;obtain⟨d0,aL,aM⟩:=(ag.2.2.2.1.ai bu.o).two
 cases j:pl.param with
 | true=>
  rw[j] at d0;obtain⟨f1,cY,lb,lo,rfl,bj,a2⟩:=DY aQ.2.2.2.2.2 j ab.au;have ap:=rj (u:=u) (s:=s) (f:=f) j;generalize hV:f.au.getD pl.index.toNat 0=V at *;have aW:=ae ap;clear ap hV;go_wp2_with(fail)
  go_ret2
  exact fY.mk' aW.o (Fr.ext ((ag.1.trans bu.o).alloc _))
 | false=>
  rw[j] at d0;go_upto_region 4 with(fail);generalize hV:World.alloc _ _=V;have bm:=aX hV;have m:=aK hV;have a3:Ext W V:=bu.trans bm;have cc:=ah a3 bm;clear hV a3 a0 ai af a8 am aF d0 aL aM;obtain⟨a0,ai,af⟩:=(ag.2.1.ai cc.1).two;obtain⟨a8,am,aF⟩:=(ag.2.2.1.ai cc.1).two;obtain⟨d0,aL,aM⟩:=(ag.2.2.2.1.ai cc.1).two;obtain⟨e0,a6,aP⟩:=m.two;rw[j] at d0;clear bm m;go_wp2_with(fail);refine(Hv (u:=u) (s:=s) (f:=f) (pl:=pl) aQ.1 aQ.2.1 aQ.2.2.1 aQ.2.2.2.1 aQ.2.2.2.2.1 j (ag.2.2.2.2.1.on cc.1).at_.m (ag.2.2.2.2.2.1.on cc.1).at_.g (ab.on cc.2).ints (D.on ag.2.2.2.2.2.2 (Fr.ext cc.1))).mono ?_;rintro e aT ⟨rfl,bg⟩;have a4:=ah cc.1 (Fr.of (M:=λ_=>False) bg);exact Ad
 ):p:=h
theorem AH(h:p:=by
 have aQ:=cS hU hS hF hp hx r;dsimp only[UV.val,SV.val];go_enter func20,ntmps20;exact zU
 ):p:=h
theorem hv(h:p:=by
 exact AG
 ):p:=h
end B8
open B8 in
theorem qn(u:ay)(s:aj)(t:Int)(f:al)(pl:bQ)(N:Nat)(w:World)(p:UV)(q:SV)(QA:Lp)(qm qc:Nat)(h:HU u s t f pl N w p q QA qm qc) :
  Calls prog 20 #[.agg (p.val u),.agg (q.val s),.int .i64 t,.agg #[.bool pl.param,.int .i64 pl.index,.slice QA qm qc]] w (fY w (xr u s t pl)):=by
 obtain⟨hU,hS,a1,ht,⟨cq,hp,hx⟩,hu,hs,bv⟩:=h;exact hr
structure IV where
 eo:Int
 en:Int
 es:ByteArray
 EA:Option Addr
 em:Nat
 ec:Nat
 QA:Option Addr
 qm:Nat
 qc:Nat
 IA:Option Addr
 i:Nat
 ic:Nat
 KA:Option Addr
 k:Nat
 kc:Nat
abbrev IV.val(v:IV)(x:az):Array Value:=#[.int .i64 x.op,.int .i64 x.target,.bool x.dg,.int .i64 v.eo,.int .i64 v.en,.string v.es,.slice v.EA v.em v.ec,.bool x.place.param,.int .i64 x.place.index,.slice v.QA v.qm v.qc,.slice v.IA v.i v.ic,.slice v.KA v.k v.kc]
structure IV.Ok(v:IV)(w:World)(x:az):Prop where
 expr:(oj x.expr).rep w (av w) [.int .i64 v.eo,.int .i64 v.en,.string v.es,.slice v.EA v.em v.ec]
 place:(di x.place).rep w (av w) [.bool x.place.param,.int .i64 x.place.index,.slice v.QA v.qm v.qc]
 ints:Sl w (av w) v.IA v.i (x.ints.map bk)
 Hi:v.i<=v.ic
 places:Sl w (av w) v.KA v.k (x.places.map di)
 Hk:v.k<=v.kc
theorem IV.Ok.on{v:IV}{w ab:World}{x:az}(h:v.Ok w x)(he:Ext w ab):v.Ok ab x:=
 ⟨D.on h.expr (Fr.ext he),D.on h.place (Fr.ext he),h.ints.on (Fr.ext he),h.Hi,h.places.on (Fr.ext he),h.Hk⟩
def FL(w:World)(x:az)(e:Ending)(ab:World):Prop:=∃v:IV,e=.returned (.tuple #[.agg (v.val x),.bool true])/\v.Ok ab x/\Ext w ab
theorem tM{u:ay}{s:aj}{f:al}{cq:cH}(h:eg s t=some f)(hp:u.procs[f.proc.toNat]?=some cq)(hx:cq.code[f.pc.toNat]?=some x):dW u s t=some x:=by
 unfold dW;rw[h];simp only[Option.bind_some,hp,hx]
structure HY(u:ay)(s:aj)(t:Int)(f:al)(cq:cH)(x:az)(w:World)(p:UV)(q:SV):Prop where
 sm:Small s
 ht:eg s t=some f
 hp:u.procs[f.proc.toNat]?=some cq
 hx:cq.code[f.pc.toNat]?=some x
 p0:0<=f.proc
 c0:0<=f.pc
 il:x.ints.length<=200
 kl:x.places.length<=200
 u:p.Ok w u
 s:q.Ok w s
theorem hq.code{w:World}{u:ay}{GA MA PA:Lp}{gn mn pn:Nat}(h:hq w (av w) u GA gn MA mn PA pn){f:al}{cq:cH}(hp:u.procs[f.proc.toNat]?=some cq)(hx:cq.code[f.pc.toNat]?=some x)(p0:0<=f.proc)(c0:0<=f.pc):
  ∃b o N co n c,∃v:IV,PA=some ⟨b,o,none⟩/\b<w.heap.size/\f.proc<pn/\w.cell? ⟨b,o+f.proc.toNat*5+4,none⟩=some (.slice (some ⟨N,co,none⟩) n c)/\N<w.heap.size/\f.pc<n/\v.Ok w x/\∀j u,(v.val x)[j]?=some u->w.cell? ⟨N,co+f.pc.toNat*12+j,none⟩=some u:=by
 have ac:=(List.getElem?_eq_some_iff.1 hp).1;have au:=(List.getElem?_eq_some_iff.1 hx).1;have bk:=h.p.1;rw[KH] at bk;obtain⟨b,o,cW,bx,n,c,rfl,O,cP,_,_,_,_,hc,U,hs⟩:=h.proc (k:=f.proc.toNat) ad;rw[hp] at cP;injection cP with cP;subst cP;have bH:=hs.1;rw[KH] at bH;obtain⟨N,co,d,cs,eo,en,es,EA,em,ec,QA,qm,qc,IA,i,ic,KA,m,mc,rfl,P,g,an,bi⟩:=hs.DE (k:=f.pc.toNat) ad;rw[hx] at g;injection g with g;subst g;refine⟨b,o,N,co,n,c,⟨eo,en,es,EA,em,ec,QA,qm,qc,IA,i,ic,KA,m,mc⟩,rfl,O,ad,hc,P,ad,⟨an.expr,an.place,an.ints,an.Hi,an.places,an.Hk⟩,λj u hu=>bi j u ?_⟩;rw[an.cells];simpa using hu
namespace B9
theorem Au(h:p:=by
 clear hV bm m a3 J z bj dN P T;go_upto_region 4 with(fail);refine eK (λ_=>False) [(0,3),(1,0),(2,3),(3,0),(4,3),(5,3),(6,0),(7,3),(8,0),(9,3),(10,0),(11,2),(12,3)] ?_;refine pf ?_;refine ph ?_;refine pf ?_;refine ph ?_
 iterate 2 refine pf ?_
 refine ph ?_;refine pf ?_;refine ph ?_;refine pf ?_;refine ph ?_;refine ax rfl (λK hK=>?_);go_simp;refine dO hK ?_;clear hK K;refine pf ?_;refine aE ?_;generalize hX:World.setCell _ _ _=X;obtain⟨bz,bp,b5⟩:=bA (w:=w) [.int .i64 x.op,.int .i64 x.target,.bool x.dg,.int .i64 eo,.int .i64 en,.string es,.slice EA em ec,.bool x.place.param,.int .i64 x.place.index,.slice QA qm qc,.slice dg j c9,.slice KA k kc] (by rfl) cc.2.1 cc.1 ad hX;have aQ:=ae bp;clear hX bp b5 a0 ai af d0 aL aM bl aA aO dh cv bO cV H b1 cj cf ci ct bS bZ b0;obtain⟨bl,aA,aO⟩:=bz.two;clear bz;go_wp2_with(fail);refine Lk (v:=.tuple #[.agg #[.int .i64 x.op,.int .i64 x.target,.bool x.dg,.int .i64 eo,.int .i64 en,.string es,.slice EA em ec,.bool x.place.param,.int .i64 x.place.index,.slice QA qm qc,.slice dg j c9,.slice KA k kc],.bool true]) (by simp[results,Tryz.results17,go_sem,bl]) rfl ?_;exact⟨⟨eo,en,es,EA,em,ec,QA,qm,qc,dg,j,c9,KA,k,kc⟩,rfl,ag.2.2.2.2.1.on aQ.drew,aQ.drew⟩
 ):p:=h
theorem AR(h:p:=by
 obtain⟨eo,en,es,EA,em,ec,QA,qm,qc,dg,j,c9,KA,k,kc⟩:=v;dsimp only[UV.val,SV.val,IV.val] at a4 ⊢;go_enter func17,ntmps17;go_upto_region 1 with(fail);generalize ba:World.alloc _ _=W;have aw:=lF ba;have b6:=jo ba;have ce:=ir ba;have cA:=jq ba;have ag:=hP aw b6 ce cA bI dc a4;have aa:=ae (hT.on aw);obtain⟨a8,am,aF⟩:=ce.two;clear ba aw b6 ce cA hT hu hs a1 ht hp hx bI dc a4;go_wp2_with(fail);refine(ny aa.o _ _ _).mono ?_;rintro e aS ⟨rfl,aN⟩;have bu:=ae aN;clear a8 am aF aN aa;go_upto_region 2 with(fail);generalize hV:World.alloc _ _=V;have bm:=aX hV;have m:=aK hV;have a3:Ext W V:=bu.trans bm;have J:Ext w V:=ag.1.trans a3;have z:=ag.2.2.2.1.ai a3;have cc:=bL J z a3 bm;obtain⟨a0,ai,af⟩:=(ag.2.1.ai a3).two;obtain⟨d0,aL,aM⟩:=m.two;obtain⟨bl,aA,aO⟩:=z.two;have T:=J.size;have bP:pb<V.heap.size:=ad;have bM:N<V.heap.size:=ad;have b0:=(J.cell (j:=eX+f.proc.toNat*5+4) dN λh=>h).trans ag.2.2.2.2.2.1;have bj:∀j u,_->V.cell? ⟨N,co+f.pc.toNat*12+j,none⟩=some u:=λj u bi=>(J.cell (j:=co+f.pc.toNat*12+j) P λh=>h).trans (ag.2.2.2.2.2.2 j u bi);exact At
 ):p:=h
theorem hv(h:p:=by
 exact AQ
 ):p:=h
end B9
open B9 in
theorem uq(u:ay)(s:aj)(t:Int)(f:al)(cq:cH)(x:az)(w:World)(p:UV)(q:SV)(h:HY u s t f cq x w p q) :
  Calls prog 17 #[.agg (p.val u),.agg (q.val s),.int .i64 t] w (FL w x):=by
 obtain⟨a1,ht,hp,hx,p0,b3,cg,bc,hu,hs⟩:=h;exact hr
end Go.Proofs.YtglbpimocmhojaaGreat
