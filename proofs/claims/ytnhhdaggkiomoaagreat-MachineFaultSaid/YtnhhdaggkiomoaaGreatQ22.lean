/- Part 22 of the proof. No condition of its own. -/
import Derived.Test.YtnhhdaggkiomoaaGreatQ21
namespace Go.Proofs.YtnhhdaggkiomoaaGreat
open Go.RowKit Go.Proofs.Tryz
set_option maxRecDepth 1000000
set_option maxHeartbeats 25600000
set_option linter.unusedVariables false
variable{t:Int}{fs:List al}{B:Nat}{p:Prop}{w:World}{s:aj}{f:al}{u:ay}{x:az}
theorem dy.pop{N:Nat}{q:SV}{xs:List Value}{F1 F2 bQ cb:List Nat}(h:dy B w s N q xs F1 F2 bQ cb){k:Nat}(bK:s.threads[k]?=some (fs++[f])):
  ∃O b1 fc,q.HA=some ⟨O,0,none⟩∧k<q.hn∧O<w.heap.size∧O≠N∧B≤O∧(∀j,w.frozen? ⟨O,j,none⟩=false)∧w.cell? ⟨O,k,none⟩=some (.slice (some ⟨b1,0,none⟩) (fs.length+1) fc)∧fs.length+1≤fc∧
   ∀X,w.setCell ⟨O,k,none⟩ (.slice (some ⟨b1,0,none⟩) fs.length fc)=X→∃e d,dy B X {s with threads:=s.threads.set k fs} N q e F1 F2 bQ d:=by
 obtain⟨O,b1,fc,IA,i,ic,S,l,lc,mC,cp,T,cf,ct,bu,an,hl,hc,aC,c0,c1,c2,c3,ah,a,c4,hints,y⟩:=h.st.top bK;have cO:O∈F1++(F2++(bQ++cb)):=by simp[ct]
 refine⟨O,b1,fc,mC,cp,T,fun he=>h.ne (he▸cO),(h.lo _ cO).1,ah,hc,aC,fun X hX=>?_⟩;obtain⟨e,d,co,H⟩:=y;subst hX;have t:∀b,b∈F1++(F2++(bQ++d))→b∈F1++(F2++(bQ++cb)):=fun b O=>by
  simp only[KP] at O ⊢;rcases O with O|O|O|O
  ·exact .inl O
  ·exact .inr (.inl O)
  ·exact .inr (.inr (.inl O))
  ·exact .inr (.inr (.inr (H b O)))
 exact⟨e,d,co,h.o.Ja (fun he=>h.ne (he▸cO)) _,fun a2=>h.ne (t _ a2),fun b O=>⟨(h.lo b (t b O)).1,by simpa[World.setCell] using (h.lo b (t b O)).2⟩,h.go⟩
theorem dy.drew{B:Nat}{w:World}{s:aj}{N:Nat}{q:SV}{xs:List Value}{F1 F2 bQ cb:List Nat}(h:dy B w s N q xs F1 F2 bQ cb):dy B w.drew s N q xs F1 F2 bQ cb:=h.ai Lo.drew
theorem xO(h:s.threads[t.toNat]?=some (fs++[f])):ug s t={s with threads:=s.threads.set t.toNat fs}:=by
 unfold ug;rw[k2 h,kt]
theorem qE(h:ef s t=some f)(hx:dW u s t=some x):bB u s t=bW u s t f x:=by
 unfold bB;rw[h,hx]
theorem qD(h:ef s t=none):bB u s t=(s,false):=by
 unfold bB;rw[h]
theorem xU(h:x.op=7):bW u s t f x=(bs s t {f with pc:=x.target},true):=by
 unfold bW;rw[if_neg ad,if_neg ad,if_neg ad,if_pos h]
theorem xV(h:x.op=8):bW u s t f x=(ug s t,true):=by
 unfold bW;rw[if_neg ad,if_neg ad,if_neg ad,if_neg ad]
namespace Ct
theorem AS(h:p:=by
 have au:((fs.length:Nat):Int)≤(fc:Int):=ad
 iterate 3 refine pf ?_
 refine ax rfl (fun K hK=>?_);go_simp;refine dO hK ?_;clear hK K;refine aE ?_;generalize hX:World.setCell _ _ _=Y;obtain⟨aK,av,n⟩:=ap.o Y hX;have ar:=cL hX;have bn:Ext W Y:=Fr.low (M:=fun b=>b=O) (Fr.trans (Fr.mono cz.2.1 fun _ h=>h.elim) ar) fun b O=>ad;have G:=ae n;clear hX n ar e0 a6 aP d0 aL aM cm du;have aW:=ag (ah.2.2.2.1.ai bn) (ah.1.trans bn);obtain⟨bl,aA,aO⟩:=aW.1.two;obtain⟨e0,a6,aP⟩:=G.o.o.two;clear bn;go_wp2_with(fail);generalize hX:World.setCell _ _ _=Z;obtain⟨bh,a9,be⟩:=bA (w:=w) [.slice bH bL bc,.slice ab tn L,.slice (some ⟨O,0,none⟩) hn a3,.int .i64 s.fault] (by rfl) aW.1 aW.2 ad hX;have bd:=ag a9 be;clear hX a9 be bl aA aO e0 a6 aP;obtain⟨bl,aA,aO⟩:=bh.two;refine Ln (v:=.tuple #[.agg #[.slice bH bL bc,.slice ab tn L,.slice (some ⟨O,0,none⟩) hn a3,.int .i64 s.fault],.bool true]) (by simp[results,Tryz.results13,go_sem,bl]) rfl ?_;rw[bV.o];show cG mf w (ug s t) true _ _
 exact gR (Q:=ug s t) (q:=⟨bH,bL,bc,ab,tn,L,(some ⟨O,0,none⟩),hn,a3⟩) G.o bd.2.drew (fun b O=>ad) ad bd.1.drew (by rw[xO bY.2.1])
 ):p:=h
theorem dC(h:p:=by
 generalize hX:World.setCell _ _ _=Y;have n:dy V.heap.size Y {s with threads:=s.threads.set t.toNat (fs++[{f with pc:=x.target}])} b6.heap.size ⟨bH,bL,bc,ab,tn,L,b2,hn,a3⟩ xs F1 F2 bQ cb:=hX▸P.pc x.target;have ar:=cL hX;have dx:=P.ge;have bn:Ext W Y:=Fr.low (M:=fun b=>b=c1) (Fr.trans (Fr.mono cj.o fun _ h=>h.elim) ar) fun b O=>ad;have G:=ae n;clear hX n ar cd g2 cS P;have aW:=ag (ah.2.2.2.1.ai bn) (ah.1.trans bn);obtain⟨bl,aA,aO⟩:=aW.1.two;obtain⟨e0,a6,aP⟩:=G.o.o.two;clear bn;go_wp2_with(fail);generalize hX:World.setCell _ _ _=Z;obtain⟨bh,a9,be⟩:=bA (w:=w) [.slice bH bL bc,.slice ab tn L,.slice b2 hn a3,.int .i64 s.fault] (by rfl) aW.1 aW.2 ad hX;have bd:=ag a9 be;clear hX a9 be bl aA aO e0 a6 aP;obtain⟨bl,aA,aO⟩:=bh.two;refine Ln (v:=.tuple #[.agg #[.slice bH bL bc,.slice ab tn L,.slice b2 hn a3,.int .i64 s.fault],.bool true]) (by simp[results,Tryz.results13,go_sem,bl]) rfl ?_;rw[bV.o];show cG mf w (bs s t {f with pc:=x.target}) true _ _
 exact gR (Q:=bs s t {f with pc:=x.target}) (q:=⟨bH,bL,bc,ab,tn,L,b2,hn,a3⟩) G.o bd.2 (fun b O=>ad) ad bd.1 (by rw[dZ bY.2.1])
 ):p:=h
end Ct
open Ct in
theorem tX(u:ay)(s:aj)(t:Int)(N:Nat)(w:World)(p:UV)(q:SV)(hU:uW u)(hS:aX u N s)(hN:N≤100000)(hu:p.Ok w u)(hs:q.Ok w s) :
  Calls prog 13 #[.agg (p.val u),.agg (q.val s),.int .i64 t] w (cG mf w (bB u s t).1 (bB u s t).2):=by
 have HA:=aB hU hS (hS.small hU.ok hN);have cc:=ag hu hs;clear hU hS hu hs;obtain⟨GA,gn,gc,MA,mn,mc,PA,pn,pc⟩:=p;obtain⟨bS,bL,bD,TA,tn,tc,bf,hn,hc⟩:=q;dsimp only[UV.val,SV.val];go_enter func13,ntmps13;go_upto_region 1 with(fail);generalize ba:World.alloc _ _=W;have aw:=kq ba;have bF:=jo ba;have b7:=g5 ba;have cA:=jq ba;have ah:=cT aw bF b7 cA (cc.1.on aw) (cc.2.on aw);have cY:=aw.size;have dr:=cA.lt;obtain⟨a0,ai,af⟩:=bF.two;obtain⟨a8,am,aF⟩:=b7.two;clear ba aw bF b7 cA cc
 cases htop:ef s t with
 | none=>
  have bV:=ae (qD (u:=u) htop);have R:=ae htop;clear htop;go_wp2_with(fail);refine(tU u s t W ⟨GA,gn,gc,MA,mn,mc,PA,pn,pc⟩ ⟨bS,bL,bD,TA,tn,tc,bf,hn,hc⟩ ah.2.2.2.2.2 R.o).mono ?_;rintro e aS ⟨rfl,aN⟩;have bu:=ae aN;clear a0 ai af a8 am aF;go_upto_region 2 with(fail);generalize hV:World.alloc _ _=V;have bj:Ext W V:=hV▸aN.alloc _;have dm:=bj.size;obtain⟨a8,am,aF⟩:=(ah.2.2.1.ai bj).two;have cn:=ae bj;clear hV bj aN;go_wp2_with(fail);refine(sS s ⟨bS,bL,bD,TA,tn,tc,bf,hn,hc⟩ V (ah.2.2.2.2.2.on cn.o) HA.2.2).mono ?_;rintro e b6 ⟨⟨bH,cu,bc,ab,m,L,b2,ct,a3⟩,rfl,I,a7⟩;have bZ:=I.mono (c5:=fun k=>mf k∨(V.heap.size≤k∧k<b6.heap.size)) fun b O=>.inr O;clear I a8 am aF;have aW:=ag ((ah.2.2.2.1.ai cn.o).ai a7) ((ah.1.trans cn.o).trans a7);have c7:=ae bZ;clear bZ a7;obtain⟨bl,aA,aO⟩:=aW.1.two;go_wp2_with(fail);generalize hX:World.setCell _ _ _=Z;obtain⟨bh,a9,be⟩:=bA (w:=w) [.slice bH cu bc,.slice ab m L,.slice b2 ct a3,.int .i64 s.fault] (by rfl) aW.1 aW.2 ad hX;have bd:=ag a9 be;clear hX a9 be bl aA aO;obtain⟨bl,aA,aO⟩:=bh.two;refine Ln (v:=.tuple #[.agg #[.slice bH cu bc,.slice ab m L,.slice b2 ct a3,.int .i64 s.fault],.bool false]) (by simp[results,Tryz.results13,go_sem,bl]) rfl ?_;rw[bV.o];show cG mf w s false _ _
  exact ew (Q:=s) (q:=⟨bH,cu,bc,ab,m,L,b2,ct,a3⟩) c7.o bd.2 (fun b O=>ad) ad bd.1
 | some f=>
  obtain⟨cq,x,i,H⟩:=jO.of HA.1 HA.2.1 hN htop;have S:=ae (qE htop H);have l:=ae i;have r:x.op=1∨x.op=2∨x.op=3∨x.op=4∨x.op=5∨x.op=6∨x.op=7∨x.op=8:=by
   exact zi
  have al:=ae r;clear htop H i r;go_wp2_with(fail);refine(tV u s t f cq x W ⟨GA,gn,gc,MA,mn,mc,PA,pn,pc⟩ ⟨bS,bL,bD,TA,tn,tc,bf,hn,hc⟩ ⟨l.sm,l.ht,l.hp,l.hx,l.hF.proc,l.pc.1,l.il,l.kl,ah.2.2.2.2.1,ah.2.2.2.2.2⟩).mono ?_;rintro e aS ⟨⟨eo,en,es,EA,em,ec,QA,qm,qc,dh,j,db,KA,dk,kc⟩,rfl,bM,aN⟩;have ds:=ag bM aN;clear a0 ai af a8 am aF bM aN;dsimp only[IV.val];go_upto_region 2 with(fail);generalize hV:World.alloc _ _=V;have b5:=aU hV;have dv:=aG hV;have bj:Ext W V:=ds.2.trans b5;have dm:=bj.size;have ce:=dv.lt;have cn:=ae bj;have dE:=ae (ds.1.on b5);obtain⟨a0,ai,af⟩:=(ah.2.1.ai bj).two;obtain⟨a8,am,aF⟩:=(ah.2.2.1.ai bj).two;obtain⟨d0,aL,aM⟩:=dv.two;have b3:=ae dv;clear hV bj b5 dv ds;have dG:w.heap.size+2<V.heap.size:=ad;rcases al.o with h|h|h|h|h|h|h|h
  all_goals
   first
    | have q1:(x.op == 1)=true:=by simpa using h
    | have q1:(x.op == 1)=false:=by simp;omega
   first
    | have cB:(x.op == 2)=true:=by simpa using h
    | have cB:(x.op == 2)=false:=by simp;omega
   first
    | have dd:(x.op == 3)=true:=by simpa using h
    | have dd:(x.op == 3)=false:=by simp;omega
   first
    | have df:(x.op == 4)=true:=by simpa using h
    | have df:(x.op == 4)=false:=by simp;omega
   first
    | have q5:(x.op == 5)=true:=by simpa using h
    | have q5:(x.op == 5)=false:=by simp;omega
   first
    | have di:(x.op == 6)=true:=by simpa using h
    | have di:(x.op == 6)=false:=by simp;omega
   first
    | have q7:(x.op == 7)=true:=by simpa using h
    | have q7:(x.op == 7)=false:=by simp;omega
   first
    | have dH:(x.op == 8)=true:=by simpa using h
    | have dH:(x.op == 8)=false:=by simp;omega
  iterate 6
   ·
    have ak:=ae h;clear h;go_wp2_with(fail)
    first
     | refine(v9 u s t f cq x N V ⟨bS,bL,bD,TA,tn,tc,bf,hn,hc⟩ ⟨eo,en,es,EA,em,ec,QA,qm,qc,dh,j,db,KA,dk,kc⟩ l.o (aD ak.o) (ah.2.2.2.2.2.on cn.o) dE.o).mono ?_
     | refine(Iw u s t f cq x N V ⟨GA,gn,gc,MA,mn,mc,PA,pn,pc⟩ ⟨bS,bL,bD,TA,tn,tc,bf,hn,hc⟩ ⟨eo,en,es,EA,em,ec,QA,qm,qc,dh,j,db,KA,dk,kc⟩ l.o (aD ak.o) (ah.2.2.2.2.1.on cn.o) (ah.2.2.2.2.2.on cn.o) dE.o).mono ?_
     | refine(Iy u s t f cq x N V ⟨GA,gn,gc,MA,mn,mc,PA,pn,pc⟩ ⟨bS,bL,bD,TA,tn,tc,bf,hn,hc⟩ ⟨eo,en,es,EA,em,ec,QA,qm,qc,dh,j,db,KA,dk,kc⟩ l.o hN (aD ak.o) (ah.2.2.2.2.1.on cn.o) (ah.2.2.2.2.2.on cn.o) dE.o).mono ?_
    have z:=ae S.o;generalize bW u s t f x=az at *;obtain⟨Q,b⟩:=az;rintro e b6 ⟨⟨bH,cu,bc,ab,m,L,b2,ct,a3⟩,rfl,bZ,a7⟩;clear a0 ai af a8 am aF d0 aL aM;have aW:=ag ((ah.2.2.2.1.ai cn.o).ai a7) ((ah.1.trans cn.o).trans a7);have c7:=ae bZ;clear bZ a7;obtain⟨bl,aA,aO⟩:=aW.1.two;go_wp2_with(fail);generalize hX:World.setCell _ _ _=Z;obtain⟨bh,a9,be⟩:=bA (w:=w) [.slice bH cu bc,.slice ab m L,.slice b2 ct a3,.int .i64 Q.fault] (by rfl) aW.1 aW.2 ad hX;have bd:=ag a9 be;clear hX a9 be bl aA aO;obtain⟨bl,aA,aO⟩:=bh.two;refine Ln (v:=.tuple #[.agg #[.slice bH cu bc,.slice ab m L,.slice b2 ct a3,.int .i64 Q.fault],.bool b]) (by simp[results,Tryz.results13,go_sem,bl]) rfl ?_;rw[z.o];show cG mf w Q b _ _
    exact ew (Q:=Q) (q:=⟨bH,cu,bc,ab,m,L,b2,ct,a3⟩) c7.o bd.2 (fun b O=>ad) ad bd.1
  ·
   have bV:=ae (S.trans (xU h));clear h;go_wp2_with(fail);refine(fG s bS TA bf bL bD tn tc hn hc V (ah.2.2.2.2.2.on cn.o).at_ HA.2.2).mono ?_;rintro e b6 ⟨bH,bc,ab,L,b2,a3,xs,F1,F2,bQ,cb,rfl,co,bv,a7⟩;have bT:=aB co bv a7;have cP:=a7.size;clear co bv a7 a8 am aF a0 ai af d0 aL aM;go_upto_region 15 with(fail);generalize hU:World.alloc _ _=U;have cl:=aU hU;have cX:=aG hU;have hOut:dy V.heap.size U s b6.heap.size ⟨bH,bL,bc,ab,tn,L,b2,hn,a3⟩ xs F1 F2 bQ cb:=
    ⟨bT.1.ak fun b O=>cl.block b (bT.2.1 b O).2 fun h=>h,cX,fun O=>by have:=(bT.2.1 _ O).2;omega,fun b O=>⟨(bT.2.1 b O).1,by have:=(bT.2.1 b O).2;have:=cl.size;omega⟩,cP⟩
   have aT:Ext V U:=bT.2.2.trans cl;have bi:=cn.trans aT;obtain⟨ao,dg,cH,fs,bK,cf⟩:=l.th;have ot:hn=s.threads.length:=by have:=ah.2.2.2.2.2.at_.h.1;simpa using this.symm
   have dA:t<(hn:Int):=ad;have bY:=aB ao bK cf;have cz:=aB hOut bi aT;obtain⟨e0,a6,aP⟩:=hOut.o.two;clear hU cl cX hOut aT bi ao cH bK cf ot;obtain⟨c1,dt,i2,cZ,de,c8,dj,c3,cg,aH,J⟩:=cz.1.top bY.2.1 dg bY.1 bY.2.2;have aa:=ag aH J;obtain⟨d0,aL,aM⟩:=(show aq U aS.heap.size 59 _ from b3.ai cz.2.2).two;clear aH J c3 cg;go_upto_region 16 with(fail);refine eK (fun _=>False) [(0,0),(1,3),(3,3),(4,0),(2,1),(5,3),(6,3),(7,2)] ?_;refine ph ?_
   iterate 2 refine pf ?_
   refine ph ?_;refine aJ rfl (fun K hK=>?_);go_simp;refine(aa.1 U.drew Lo.drew).mono ?_;rintro e cN ⟨rfl,cw⟩;have P:=ae (aa.2 cN (Fr.aF cw));have cj:=ae (cz.2.1.trans (Fr.aF cw));refine dz hK (cw) ?_;clear hK K;clear cw e0 a6 aP d0 aL aM
   iterate 2 refine pf ?_
   have cd:=P.c1;have g2:=P.fz;have cS:=P.lt;exact eP
  ·
   have bV:=ae (S.trans (xV h));clear h;go_wp2_with(fail);refine(fG s bS TA bf bL bD tn tc hn hc V (ah.2.2.2.2.2.on cn.o).at_ HA.2.2).mono ?_;rintro e b6 ⟨bH,bc,ab,L,b2,a3,xs,F1,F2,bQ,cb,rfl,co,bv,a7⟩;have bT:=aB co bv a7;have cP:=a7.size;clear co bv a7 a8 am aF a0 ai af d0 aL aM;go_upto_region 15 with(fail);generalize hU:World.alloc _ _=U;have cl:=aU hU;have cX:=aG hU;have hOut:dy V.heap.size U s b6.heap.size ⟨bH,bL,bc,ab,tn,L,b2,hn,a3⟩ xs F1 F2 bQ cb:=
    ⟨bT.1.ak fun b O=>cl.block b (bT.2.1 b O).2 fun h=>h,cX,fun O=>by have:=(bT.2.1 _ O).2;omega,fun b O=>⟨(bT.2.1 b O).1,by have:=(bT.2.1 b O).2;have:=cl.size;omega⟩,cP⟩
   have aT:Ext V U:=bT.2.2.trans cl;have bi:=cn.trans aT;obtain⟨ao,dg,cH,fs,bK,cf⟩:=l.th;have ot:hn=s.threads.length:=by have:=ah.2.2.2.2.2.at_.h.1;simpa using this.symm
   have dA:t<(hn:Int):=ad;have bY:=aB ao bK cf;have cz:=aB hOut bi aT;obtain⟨e0,a6,aP⟩:=hOut.o.two;clear hU cl cX hOut aT bi ao cH bK cf ot;obtain⟨O,b1,fc,mC,cp,T,bR,aI,du,cm,aC,y⟩:=cz.1.pop bY.2.1;simp only at mC;subst mC;have ap:=ae y;have dp:=bY.2.2;obtain⟨d0,aL,aM⟩:=(show aq U aS.heap.size 59 _ from b3.ai cz.2.2).two;clear y;go_upto_region 18 with(fail);exact AR
def FX(P:Nat→Prop)(w:World)(s:aj)(e:Ending)(ab:World):Prop:=∃q:SV,e=.returned (.agg (q.val s))∧q.Is ab (fun k=>P k∨(w.heap.size≤k∧k<ab.heap.size)) s∧Ext w ab
theorem xL(u:ay):dA u=⟨u.globals,List.replicate (own u.af).length ⟨0,0⟩,[[da u u.main [] []]],0⟩:=rfl
theorem cq.below{α:Type}{f:α→List Value}{sz:Nat}{ab:World}{n:Nat}{A:Ls}{l:List α}(h:cq (EF f) sz w B A n l)(ap:∀b,b<B→ab.heap[b]?=w.heap[b]?):cq (EF f) sz ab B A n l:=by
 refine⟨h.1,fun hn=>?_⟩;obtain⟨b,o,bw,O,hc⟩:=h.2 hn;refine⟨b,o,bw,O,fun k x hx=>?_⟩;obtain⟨cs,he,hl,bi⟩:=hc k x hx;exact⟨cs,he,hl,fun j v bM=>(World.cell?_of_block (w:=w) (ap b O)).trans (bi j v bM)⟩
theorem Fo(A:Ls)(n c:Nat)(X:List bI)(w:World)(h:cq (EF gy) 3 w w.heap.size A n X)(hX:m2 X) :
  Calls prog 51 #[.slice A n c] w fun r ab=>∃I aK,r=.returned (.slice I (own X).length aK)∧ab.ownsRow w.heap.size 102 2 (.slice I (own X).length aK) (own X).length ((List.replicate (own X).length ⟨0,0⟩).flatMap bJ)∧Below w.heap.size w ab:=by
 go_enter func51,ntmps51;go_wp2_with(fail);refine(h1 A n c X w h hX).mono ?_;rintro e aS ⟨rfl,O⟩;have Q:=eu X;have a:=cA hX;generalize hN:(own X).length=N at *;rw[←Q];clear Q;have d2:=fun W=>run_mk kO .i64 .i64 N ad ad W;go_wp2;go_ret;have b0:=O.size;have aC:=wq (e:=102) (f:=bJ) (x:=⟨0,0⟩) (zc:=#[.int .i64 0,.int .i64 0]) (sz:=2) rfl rfl ad N ad (w:=aS) (base:=w.heap.size) b0;rw[hN];exact⟨_,_,rfl,aC,O.alloc b0 _⟩
namespace Cu
theorem dC(h:p:=by
 generalize hX:World.setCell _ _ _=Z;have T:Ext w V:=((ah.1.trans a4.o).trans bT.2.1).trans m.1;obtain⟨bh,a9,be⟩:=bA (w:=w) [.slice aZ gn bc,.slice aX (own u.af).length L,.slice (some ⟨b6.heap.size+1,0,none⟩) 1 1,.int .i64 0] (by rfl) al.o T ad hX;have bd:=ag a9 be;clear hX a9 be bl aA aO T;obtain⟨bl,aA,aO⟩:=bh.two;clear bh;go_wp2_with(fail);refine Ln (v:=.agg #[.slice aZ gn bc,.slice aX (own u.af).length L,.slice (some ⟨b6.heap.size+1,0,none⟩) 1 1,.int .i64 0]) (by simp[results,Tryz.results17,go_sem,bl]) rfl ?_;have cR:=bd.2.size;have i:∀b,b<V.heap.size→b≠w.heap.size+1→Z.heap[b]?=V.heap[b]?:=fun b ac av=>bd.2.block b ac av;have ak:w.heap.size+1<W.heap.size:=dr;have cv:∀b,aS.heap.size≤b→b<V.heap.size→Z.heap[b]?=V.heap[b]?:=fun b ac av=>i b av ad;have a5:Own Z 3 1 aZ gn bc (u.globals.map dc) (bq aZ gn bc):=H1.1.ak fun b O=>by
  have:=H1.2.1 b O;have bv:W.drew.heap.size=W.heap.size:=rfl;exact(i b ad ad).trans ((m.1.block b ad fun h=>h).trans ((bT.2.1.block b ad fun h=>h).trans (bG.2.2.block b ad fun h=>h)))
 have ci:gn=u.globals.length:=by have:=(ah.2.2).at_.g.1;rw[KK] at this;exact this.symm
 have bv:W.drew.heap.size=W.heap.size:=rfl;have hG:Sl Z (fun k=>False∨(w.heap.size≤k∧k<Z.heap.size)) aZ gn (u.globals.map D.i):=a5.sl (cu _) (by simp[ci]) fun b O=>by
  have:=H1.2.1 b O;exact .inr ⟨ad,ad⟩
 have g:Own Z 102 2 aX (own u.af).length L ((List.replicate (own u.af).length ⟨0,0⟩).flatMap bJ) (bq aX (own u.af).length L):=bG.1.ak fun b O=>by
  have:=bG.2.1 b O;exact(i b ad ad).trans ((m.1.block b ad fun h=>h).trans (bT.2.1.block b ad fun h=>h))
 have hT:Sl Z (fun k=>False∨(w.heap.size≤k∧k<Z.heap.size)) aX (own u.af).length ((List.replicate (own u.af).length ⟨0,0⟩).map lj):=g.sl (dw _) (by simp) fun b O=>by
  have:=bG.2.1 b O;exact .inr ⟨ad,ad⟩
 have s:=m.2.1.on bd.2 ad;have F:=m.2.2.on bd.2 ad;have H:=m.2.1.lt;have l:(er R).rep Z (fun k=>False∨(w.heap.size≤k∧k<Z.heap.size)) [.int .i64 R.proc,.int .i64 R.pc,.slice FA dn bk,.slice dD fl bx]:=D.aL (fun b O=>.inr ⟨by have:=O.1;omega,by have:=O.2;omega⟩) _ _ (D.aS (fun b O=>(i b (aD O.2) (aD O.1)).trans (m.1.block b O.2 fun h=>h)) _ _ bT.1);have hF:Sl Z (fun k=>False∨(w.heap.size≤k∧k<Z.heap.size)) (some ⟨b6.heap.size,0,none⟩) 1 ([R].map er):=⟨rfl,fun _=>⟨b6.heap.size,0,_,rfl,.inr ⟨ad,ad⟩,D.bj.2 l,fun j v bi=>by
  rw[KY,s.cell];simpa using bi⟩⟩
 have hH:Sl Z (fun k=>False∨(w.heap.size≤k∧k<Z.heap.size)) (some ⟨b6.heap.size+1,0,none⟩) 1 ([[R]].map jP):=⟨rfl,fun _=>⟨b6.heap.size+1,0,[.slice (some ⟨b6.heap.size,0,none⟩) 1 1],rfl,.inr ⟨ad,ad⟩,D.bj.2 (eS.2 ⟨_,1,1,rfl,KG _,hF⟩),fun j v bi=>by
  rw[KY,F.cell];simpa using bi⟩⟩
 have y:dA u=⟨u.globals,List.replicate (own u.af).length ⟨0,0⟩,[[R]],0⟩:=by rw[xL,bT.2.2]
 rw[y];have aj:(⟨aZ,gn,bc,aX,(own u.af).length,L,some ⟨b6.heap.size+1,0,none⟩,1,1⟩:SV).Is Z (fun k=>False∨(w.heap.size≤k∧k<Z.heap.size)) ⟨u.globals,List.replicate (own u.af).length ⟨0,0⟩,[[R]],0⟩:=⟨⟨hG,hT,hH⟩,a5.cap,g.cap,KG _⟩
 exact⟨⟨aZ,gn,bc,aX,(own u.af).length,L,some ⟨b6.heap.size+1,0,none⟩,1,1⟩,rfl,aj,bd.1⟩
 ):p:=h
theorem sk(h:p:=by
 refine pf ?_;refine l4 (fun V=>Ext b6 V∧aq V b6.heap.size 73 #[.int .i64 R.proc,.int .i64 R.pc,.slice FA dn bk,.slice dD fl bx]∧aq V (b6.heap.size+1) 69 #[.slice (some ⟨b6.heap.size,0,none⟩) 1 1]) ⟨(Lo.alloc _).alloc _,(Lp).alloc _,aq.hL _ _ _ (by simp)⟩ (fun V hV=>?_);have m:=ae hV;have z:=aW.ai hV.1;have dm:=hV.1.size;have G:=hV.2.2.lt;clear hV;obtain⟨bl,aA,aO⟩:=z.two;have al:=ae z;clear z;exact eP
 ):p:=h
theorem lJ(h:p:=by
 have ah:=aB aw cA (cc.on aw);have cY:=aw.size;have dr:=cA.lt;obtain⟨a0,ai,af⟩:=aR.two;clear ba aw aR cA cc;refine eK (fun _=>False) [(0,3),(1,0),(3,3),(4,0),(6,0),(7,3),(8,0),(2,1),(5,1),(9,2),(10,2),(11,3),(12,2),(13,3),(14,2)] ?_;refine pf ?_;refine ph ?_;refine pf ?_
 iterate 2 refine ph ?_
 refine pf ?_;refine ph ?_;refine aJ rfl (fun K hK=>?_);go_simp;refine(Sl.lQ (ah.2.2.on (Fr.refl _ W).drew).at_.g rD).mono ?_;rintro r aS ⟨aZ,bc,rfl,E,aK,ar⟩;have H1:=aB E aK (Fr.aF ar);refine dz hK (ar) ?_;clear hK K;clear E aK ar;refine aJ rfl (fun K hK=>?_);go_simp;refine(Fo MA mn mc u.af aS (ah.2.2.on H1.2.2).at_.m.ou cz.1.ok.yW).mono ?_;rintro r aT ⟨aX,L,rfl,o,bg⟩;have f:Own aT 102 2 aX (own u.af).length L ((List.replicate (own u.af).length ⟨0,0⟩).flatMap bJ) (bq aX (own u.af).length L):=⟨g9 o (Ld _),rfl⟩
 have n:∀b∈bq aX (own u.af).length L,aS.heap.size≤b∧b<aT.heap.size:=fun b O=>o.lt b (by simpa using O);have bG:=aB f n (Fr.of (M:=fun _=>False) bg);have bL:=bg.size;refine dz hK (Fr.of bg) ?_;clear hK K;clear o f n bg;have a3:Ext W aT:=H1.2.2.trans bG.2.2;have bO:=a3.size;have cn:=H1.2.2.size;have a4:=ae a3;refine ax rfl (fun K hK=>?_);go_simp;refine(mframe u u.main dR [] [] none none 0 0 0 0 aT ⟨GA,gn,gc,MA,mn,mc,PA,pn,pc⟩ (ah.2.2.on a3) cz.2.1 cz.2.2.1 (by have:=cz.2.2.2.ints;simp;omega) cz.2.2.2.ints.2.2 (by simp) (Sl.bO _) (Sl.bO _)).mono ?_;rintro e b6 ⟨FA,dn,bk,dD,fl,bx,rfl,bU,a7⟩;generalize cV:da u u.main [] []=R at *;have bT:=aB bU a7 cV;have cP:=a7.size;have cF:=(ah.2.1.ai a3).ai a7;clear bU a7 cV a3 a0 ai af;have aW:=ae cF;clear cF;refine dO hK ?_;clear hK K;exact sj
 ):p:=h
end Cu
open Cu in
theorem Iz(u:ay)(w:World)(p:UV)(hU:uW u)(hu:p.Ok w u) :
  Calls prog 17 #[.agg (p.val u)] w (FX (fun _=>False) w (dA u)):=by
 obtain⟨GA,gn,gc,MA,mn,mc,PA,pn,pc⟩:=p;obtain⟨dR,bB,a1,an,ce⟩:=hU.ok.main;have b2:=hU.ok.procs dR (KJ a1);have rD:gn≤100000:=by have ac:=hu.at_.g.1;have av:=hU.ok.n7;rw[KK] at ac;have aV:u.globals.length=gn:=ac;omega
 have cz:=bH hU bB a1 b2;have cc:=ae hu;clear hU bB a1 an ce b2 hu;dsimp only[UV.val];go_enter func17,ntmps17;exact lI
end Go.Proofs.YtnhhdaggkiomoaaGreat
