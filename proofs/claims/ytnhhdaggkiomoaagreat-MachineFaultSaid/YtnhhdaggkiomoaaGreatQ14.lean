/- Part 14 of the proof. No condition of its own. -/
import Derived.Test.YtnhhdaggkiomoaaGreatQ08
namespace Go.Proofs.YtnhhdaggkiomoaaGreat
open Go.RowKit Go.Proofs.Tryz
set_option maxRecDepth 1000000
set_option maxHeartbeats 25600000
set_option linter.unusedVariables false
variable{s:ByteArray}{d:D}{cs xs:List Value}{c:List az}{l:List dL}{k n:Nat}{P:Nat→Prop}{A:Ls}{p:Prop}{t:TypeId}{v0 v1 v2:Value}{V X aS:World}{e:dL}
theorem gO{w:World}{l:List D}:D.aQ w P (d::l) cs↔∃x y,cs=x++y∧d.rep w P x∧D.aQ w P l y:=by simp only[D.aQ]
theorem jw{w:World}{r:eO}:(ky r).rep w P cs↔∃A n c,cs=[.string r.name,.slice A n c]∧n≤c∧Sl w P A n (r.idx.toList.map bk):=by
 unfold ky;rw[bK,cp];constructor
 ·rintro⟨y,rfl,h⟩;rw[aN] at h;obtain⟨A,n,c,b5,rfl,hc,hs,aV⟩:=h;exact r7
 ·rintro⟨A,n,c,rfl,hc,hs⟩;exact vd
def bZ(e:dL):D:=.st [.s e.name,.i e.kind,.i e.n]
theorem yi(e:dL):(bZ e).sz=3:=rfl
theorem iz{w:World}:(bZ e).rep w P cs↔cs=[.string e.name,.int .i64 e.kind,.int .i64 e.n]:=by
 unfold bZ;rw[bK,cp];constructor
 ·rintro⟨y,rfl,h⟩;rw[bm] at h;exact zy
 ·rintro rfl;exact⟨_,rfl,bm.2 ⟨_,rfl,bm.2 ⟨_,rfl,aP.2 rfl⟩⟩⟩
theorem mw(x:az):(eg x).sz=12:=by
 have ac:(oq x.expr).sz=4:=by
  cases x.expr with
  | none=>rfl
  | some x=>exact c8 x
 unfold eg di;simp only[D.sz,D.yM,ac]
def Ms(g:Nat)(cv sv:Value):Nat→Prop:=fun b=>b=g∨cv.ownBlock=some b∨sv.ownBlock=some b
structure Mv(g:Nat)(cv sv:Value)(w:World)(a f:Value)(ab:World):Prop where
 fr:Fr (Ms g cv sv) w ab
 own:∀b,b<w.heap.size→Ms g a f b→Ms g cv sv b
section
variable {g:Nat} {cv sv a f i m:Value} {w ab aT:World}
theorem Mv.refl(g:Nat)(cv sv:Value)(w:World):Mv g cv sv w cv sv w:=⟨Lo,fun _ _ h=>h⟩
theorem Mv.trans(h:Mv g cv sv w a f ab)(k:Mv g a f ab i m aT):Mv g cv sv w i m aT:=by
 refine⟨⟨k.fr.os.trans h.fr.os,k.fr.tape.trans h.fr.tape,k.fr.output.trans h.fr.output,KX h.fr.size k.fr.size,fun b O hn=>?_⟩,fun b O hm=>?_⟩
 ·exact(k.fr.block b (KH O h.fr.size) fun hm=>hn (h.own b O hm)).trans (h.fr.block b O hn)
 ·exact h.own b O (k.own b (KH O h.fr.size) hm)
theorem Mv.g8(h:Ext w ab):Mv g cv sv w cv sv ab:=⟨h.mono fun _ h=>h.elim,fun _ _ h=>h⟩
theorem Mv.IG(h:Fr (Ms g cv sv) w ab):Mv g cv sv w cv sv ab:=⟨h,fun _ _ h=>h⟩
theorem Mv.IH(h:Mv g cv sv w a f ab):∀b,off (Ms g cv sv) w b→off (Ms g a f) ab b:=
 fun b O=>⟨KH O.1 h.fr.size,fun hm=>O.2 (h.own b O.1 hm)⟩
theorem D.cQ(h:d.rep w (off (Ms g cv sv) w) cs)(O:Mv g cv sv w a f ab):d.rep ab (off (Ms g a f) ab) cs:=
 D.aL O.IH _ _ (D.aS (fun b ak=>O.fr.block b ak.1 ak.2) _ _ h)
theorem Sl.cQ{l:List D}(h:Sl w (off (Ms g cv sv) w) A n l)(O:Mv g cv sv w a f ab):Sl ab (off (Ms g a f) ab) A n l:=
 (h.ak (fun b ak=>O.fr.block b ak.1 ak.2)).mono O.IH
end
theorem rP{w:World}{P:Nat→Prop}(t:Int):∀(code:List az) (xs:List Value) (b:Nat),D.aQ w P (code.map eg) xs→b<code.length→D.aQ w P ((fW code b t).map eg) (xs.set (b*12+1) (.int .i64 t))
 | [],xs,b,h,O=>by simp at O
 | x::code,xs,0,h,O=>by
  rw[KM] at h;obtain⟨j,d,rfl,hx,bb⟩:=gO.1 h;have hl:=(D.k6 _ _ hx).trans (mw x);have e:fW (x::code) 0 t={x with target:=t}::code:=rfl;rw[e,KM,List.set_append_left _ _ ad];refine gO.2 ⟨_,_,rfl,?_,bb⟩;unfold eg at hx ⊢;rw[bK,bm] at hx ⊢;obtain⟨y,rfl,hx⟩:=hx;rw[bm] at hx;obtain⟨cG,rfl,hx⟩:=hx
  exact⟨_,rfl,bm.2 ⟨_,rfl,hx⟩⟩
 | x::code,xs,b+1,h,O=>by
  rw[KM] at h;obtain⟨j,d,rfl,hx,bb⟩:=gO.1 h;have hl:=(D.k6 _ _ hx).trans (mw x);have ao:=rP t code d b bb (by simpa using O);have e:fW (x::code) (b+1) t=x::fW code b t:=rfl;rw[e,KM,List.set_append_right _ _ ad,hl,show (b+1)*12+1 - 12=b*12+1 by omega];exact gO.2 ⟨_,_,rfl,hx,ao⟩
theorem cw(code:List az)(b:Nat)(t:Int):(fW code b t).length=code.length:=by unfold fW;rw[List.length_modify]
def kH(x:az):Prop:=(x.op=2∨x.op=3)∨(x.ints=[]∧x.places=[])
def EC(u:ay):Prop:=∀p∈u.procs,∀x∈p.code,kH x
theorem eG{y:az}(h:∀x∈c,kH x)(bb:kH y):∀x∈c++[y],kH x:=fun x hx=>by
 rcases KP.1 hx with hx|hx
 ·exact h x hx
 ·rw[Li.1 hx];exact bb
theorem j3{b:Nat}{t:Int}(h:∀x∈c,kH x):∀x∈fW c b t,kH x:=fun x hx=>by
 rcases pZ hx with hx|⟨y,bb,rfl⟩
 ·exact h x hx
 ·exact h y (KJ bb)
theorem dv:∀(b:an) (l:List dL) (n:Int) (c:List az),(∀x∈c,kH x)→∀x∈(dI b l n c).1,kH x
 | .nil,_,_,c,h=>h
 | .set true s e rest,l,n,c,h=>dv rest _ _ _ (eG h (.inr ⟨rfl,rfl⟩))
 | .set false s e rest,l,n,c,h=>dv rest _ _ _ (eG h (.inr ⟨rfl,rfl⟩))
 | .call g s a1 rest,l,n,c,h=>dv rest _ _ _ (eG h (.inl (by cases g<;>simp[lu])))
 | .lock u r rest,l,n,c,h=>dv rest _ _ _ (eG h (.inr ⟨rfl,rfl⟩))
 | .ite e th el rest,l,n,c,h=>by
  have ac:=dv th l n _ (eG (y:=kk (bL l e) 0) h (.inr ⟨rfl,rfl⟩));simp only[dI];refine dv rest _ _ _ ?_;split
  ·exact j3 ac
  ·exact j3 (dv el l _ _ (j3 (eG ac (.inr ⟨rfl,rfl⟩))))
 | .gv e th rest,l,n,c,h=>by
  have ac:=dv th l n _ (eG (y:=kk (bL l e) 0) h (.inr ⟨rfl,rfl⟩))
  exact dv rest _ _ _ (j3 (eG ac (.inr ⟨rfl,rfl⟩)))
 | .ret rest,l,n,c,h=>dv rest _ _ _ (eG h (.inr ⟨rfl,rfl⟩))
theorem xH(p:bM):EC (gi p):=fun q bK=>by
 simp only[gi,Lf] at bK;obtain⟨f,_,rfl⟩:=bK;exact eG (dv _ _ _ _ (by simp)) (.inr ⟨rfl,rfl⟩)
structure uW(u:ay):Prop where
 ok:cZ u
 sh:EC u
theorem uW.Ip{u:ay}{f:al}(h:uW u)(hF:cb u f):∃cq x,u.procs[f.proc.toNat]?=some cq∧cq.code[f.pc.toNat]?=some x∧f.proc.toNat<u.procs.length∧f.pc.toNat<cq.code.length∧0≤f.proc∧0≤f.pc∧(∃len:Nat,cq.code.length=len+1∧h2 (bx u) cq.locals cq.av len x)∧x.ints.length≤200∧x.places.length≤200∧(x.op≠8→f.pc+1<cq.code.length)∧ql (bx u) cq:=by
 obtain⟨cq,x,hp,aZ,hx,len,hl,an,hn⟩:=pT h.ok hF;have ac:=(List.getElem?_eq_some_iff.1 hp).1;have av:=(List.getElem?_eq_some_iff.1 hx).1;have hlen:x.ints.length≤200∧x.places.length≤200:=by
  rcases h.sh cq (KJ hp) x (KJ hx) with aV|⟨aV,bz⟩
  ·rcases an with⟨bz,_⟩|⟨_,_,sg,_,hs,cm,aY,_⟩|⟨bz,_⟩|⟨bz,_⟩|⟨bz,_⟩|⟨bz,_⟩
   ·omega
   ·simp only[bx,List.getElem?_map] at hs
    cases bK:u.procs[x.target.toNat]? with
    | none=>rw[bK] at hs;cases hs
    | some r=>
     rw[bK] at hs;simp only[Option.map_some,Lj] at hs;have a5:=h.ok.procs r (KJ bK);have:=a5.ints;have:=a5.av;subst hs;simp only at cm aY;omega
   ·omega
   ·omega
   ·omega
   ·omega
  ·rw[aV,bz];simp
 exact⟨cq,x,hp,hx,ac,av,hF.proc,hF.pc,⟨len,hl,an⟩,hlen.1,hlen.2,hn,aZ⟩
theorem x3{P:Program}(S:World){o:Oper}{a:Act}{K:Act→World→Prop}{Q:Exit→Act→World→Prop}{e:TypeId}{z:Value}{size bytes:Nat}(bw:ch P t e z size bytes)(s x:Operand)
  (bn:o.op=.call {callee:=.builtin .append,args:=#[s,x],argTypes:=#[t,t]})
  (base:Nat) (v:Value) (n:Nat) (xs:List Value) (cs:Array Value) (hs:a.eval s=v) (aC:S.ownsRow base e size v n xs)
  (hx:a.eval x=.slice (some ⟨S.heap.size,0,none⟩) 1 1) (T:cs.size=size) (ac:∀u∈cs.toList,u.oneCell'=true)
  (r:(n+1)*bytes≤140737488355328) (y:n+1≤140737488355328) (C:base≤S.heap.size)
  (h:∀G ab,ab.ownsRow base e size G (n+1) (xs++cs.toList)→S.grownBy ab v.ownBlock→(G.ownBlock=v.ownBlock∨G.ownBlock=some (S.heap.size+1))→K (a.put o.dst G) ab):o.wp P a (S.alloc (.cells cs e)) K Q:=by
 refine j8 _ bw s x bn base v n xs hs (aC.alloc _) _ 1 1 cs.toList hx (Src.block (heap_alloc_new S _) 1 ad ac) r y (by simp;omega) (fun h=>nomatch h) fun G ab av aV bz=>?_;exact h G ab av ⟨aV.os,aV.tape,aV.output,by have:=aV.size;simp at this;omega,fun k ap bf=>(aV.block k (by simp;omega) bf).trans (Below.heap_alloc S _ k ap)⟩ (by simpa using bz)
theorem pv:ch prog 52 54 (.agg #[.int .i64 0,.int .i64 0,.string ⟨#[]⟩,.slice none 0 0]) 4 56:=ch.mk' Tryz.underlying52 (by kernel_rfl) rfl ad
abbrev fresh(w ab:World):Nat→Prop:=fun b=>w.heap.size≤b∧b<ab.heap.size
theorem DI{w aT:World}(h:d.rep aS (fresh w aS) cs)(O:Ext aS aT):d.rep aT (fresh w aT) cs:=
 D.aL (fun _ ak=>⟨ak.1,KH ak.2 O.size⟩) _ _ (D.aS (fun b ak=>O.block b ak.2 (fun h=>h)) _ _ h)
theorem vQ{S w ab:World}(h:d.rep ab (fresh w ab) cs)(O:S.heap.size≤w.heap.size):d.rep ab (fresh S ab) cs:=
 D.aL (fun _ ak=>⟨KX O ak.1,ak.2⟩) _ _ h
def qY(e:dL):Value:=.agg #[.string e.name,.int .i64 e.kind,.int .i64 e.n]
def iU:Option dL→Value
 | some e=>.tuple #[qY e,.bool true]
 | none=>.tuple #[.agg #[.string ⟨#[]⟩,.int .i64 0,.int .i64 0],.bool false]
theorem jR(h:∀(j:Nat) (x:dL),l[j]?=some x→x.name≠s):dB l s=none:=by
 unfold dB;rw[List.find?_eq_none];exact zK
theorem tJ(ap:l[k]?=some e)(he:e.name=s)(h:∀(j:Nat) (x:dL),j<k→l[j]?=some x→x.name≠s):dB l s=some e:=by
 induction l generalizing k with
 | nil=>simp at ap
 | cons a l ao=>
  cases k with
  | zero=>
   simp only[List.getElem?_cons_zero,Lj] at ap;subst ap;unfold dB
   rw[List.find?_cons_of_pos (by simpa using he)]
  | succ k=>
   simp only[List.getElem?_cons_succ] at ap;have bx:=h 0 a ad rfl;unfold dB;rw[List.find?_cons_of_neg (by simpa using bx)];exact ao ap fun j x bi hx=>h (j+1) x ad (by simpa using hx)
theorem dV(A:Ls)(n c:Nat)(l:List dL)(s:ByteArray)(w:World)(h:Sl w (au w) A n (l.map bZ))(hn:n≤1000000) :
  Calls prog 80 #[.slice A n c,.string s] w fun e ab=>e=.returned (iU (dB l s))∧Ext w ab:=by
 have H:=ae h;have ca:=ae (show l.length=n by rw[←h.1,KK]);clear h;go_enter func80,ntmps80;go_wp2;generalize ba:World.alloc _ _=W;have aw:=aU ba;have aR:=aG ba;clear ba;have bq:=ae aw;have bm:=ae (H.on (Fr.ext aw));obtain⟨a0,ai,af⟩:=aR.two;have b2:=ae aR;clear aw aR
 go_loop [6] (fun bd=>∃k:Nat,k≤n∧bd=.int .i64 k∧∀(j:Nat) (x:dL),j<k→l[j]?=some x→x.name≠s) (fun bd=>n - (intOf bd).toNat)
 case atStart=>exact⟨0,ad,rfl,fun j x h=>ad⟩
 case round=>
  obtain⟨k,ap,rfl,bf⟩:=hrel;have b4:=ae bf;clear bf;by_cases ak:k<n
  ·obtain⟨b,o,x,cs,rfl,O,hx,a5,bp,Z⟩:=bm.gZ yi ak;obtain rfl:=iz.1 a5;have c0:=Z 0 _ rfl;have c1:=Z 1 _ rfl;have c2:=Z 2 _ rfl;simp only[KQ] at c0;have aX:b<W.heap.size:=O;have aQ:=ae hx;clear hx a5 bp Z O;by_cases hs:x.name=s
   ·have bV:=ae (tJ aQ.o hs b4.o);subst hs;go_wp2;generalize hX:World.setCell _ _ _=X;have bs:aq X w.heap.size 152 #[.string x.name,.int .i64 x.kind,.int .i64 x.n]:=hX▸((b2.aM 0 _).aM 1 _).aM 2 _;have a3:Ext w X:=hX▸((bq.setCell (.inr (KG _)) _).setCell (.inr (KG _)) _).setCell (.inr (KG _)) _;obtain⟨e0,a6,aP⟩:=bs.two;clear a0 ai af;refine Ln (v:=.tuple #[.agg #[.string x.name,.int .i64 x.kind,.int .i64 x.n],.bool true]) (by simp[results,Tryz.results80,go_sem,e0]) rfl ?_;exact⟨by rw[bV.o];rfl,a3⟩
   ·have q:=s8 hs;have u:=ae hs;clear hs;go_wp2
    go_round
    case rel=>exact⟨k+1,ad,by go_num,fun j y bi bb=>by
     by_cases z:j=k
     ·subst z;rw[aQ.o] at bb;injection bb with bb;subst bb;exact u.o
     ·exact b4.o j y ad bb⟩
    case measure=>exact aH
  ·have bV:=ae (jR (l:=l) (s:=s) fun j x bi=>b4.o j x (by have:=(List.getElem?_eq_some_iff.1 bi).1;have:=ca.o;omega) bi);go_wp2;generalize hX:World.setCell _ _ _=X;have bs:aq X w.heap.size 152 #[.string ⟨#[]⟩,.int .i64 0,.int .i64 0]:=hX▸((b2.aM 0 _).aM 1 _).aM 2 _;have a3:Ext w X:=hX▸((bq.setCell (.inr (KG _)) _).setCell (.inr (KG _)) _).setCell (.inr (KG _)) _;obtain⟨e0,a6,aP⟩:=bs.two;clear a0 ai af;refine Ln (v:=.tuple #[.agg #[.string ⟨#[]⟩,.int .i64 0,.int .i64 0],.bool false]) (by simp[results,Tryz.results80,go_sem,e0]) rfl ?_;exact⟨by rw[bV.o];rfl,a3⟩
structure ts(w:World)(g:Nat)(l:List dL):Prop where
 lt:g<w.heap.size
 ex:∃A n c,n≤1000000∧w.cell? ⟨g,3,none⟩=some (.slice A n c)∧Sl w (au w) A n (l.map bZ)
theorem ts.on{w ab:World}{g:Nat}(h:ts w g l)(O:Ext w ab):ts ab g l:=by
 exact C8
theorem mX(g:Nat)(l:List dL)(s:ByteArray)(v:dL)(J:dB l s=some v)(ap:v.kind=1∨v.kind=4)(st:Int)(w:World)(h:ts w g l) :
  Calls prog 145 #[.pointer (some ⟨g,0,none⟩),.string s,.int .i64 st] w fun e ab=>e=.returned (qY v)∧Ext w ab:=by
 have H:=ae h;clear h;go_enter func145,ntmps145;go_upto_region 1 with(fail);generalize ba:World.alloc _ _=W;have aw:=aU ba;have aR:=aG ba;obtain⟨a2,A,n,c,hn,c3,hs⟩:=H.on aw;obtain⟨b2,bq,bm⟩:=eh aR aw hs;clear ba aw aR hs;go_wp2_with(fail);refine(dV A n c l s W bm.o hn).mono ?_;rintro e aS ⟨rfl,ar⟩;have bu:=ae (bq.trans ar);have G:=ae (b2.ai ar);rw[J];simp only[iU,qY];clear ar c3 a2;go_upto_region 2 with(fail);generalize hV:World.alloc _ _=V;have L:=aU hV;have a4:=ae (bu.trans L);have cb:=ae (G.ai L);have hC:=aG hV;obtain⟨a0,ai,af⟩:=hC.two;obtain⟨a8,am,aF⟩:=cb.two;clear hV L hC;have fin:∀X,X=((V.setCell ⟨w.heap.size,0,none⟩ (.string v.name)).setCell ⟨w.heap.size,1,none⟩ (.int .i64 v.kind)).setCell ⟨w.heap.size,2,none⟩ (.int .i64 v.n)→aq X w.heap.size 152 #[.string v.name,.int .i64 v.kind,.int .i64 v.n]∧Ext w X:=by
  rintro X rfl;exact⟨((cb.aM 0 _).aM 1 _).aM 2 _,((a4.setCell (.inr (KG _)) _).setCell (.inr (KG _)) _).setCell (.inr (KG _)) _⟩
 have d:=ae fin;clear fin;obtain⟨bi,cI,bD⟩:=v;simp only at *;rcases ap with rfl|rfl
 all_goals
  go_wp2;generalize hX:World.setCell _ _ _=X;obtain⟨bF,a7⟩:=d.o X hX.symm;obtain⟨e0,a6,aP⟩:=bF.two;clear a0 ai af a8 am aF;refine Ln (v:=.agg #[.string bi,.int .i64 _,.int .i64 bD]) (by simp[results,Tryz.results145,go_sem,e0];rfl) rfl ?_;exact⟨rfl,a7⟩
def fR(l:List dL):VE→Prop
 | .num _=>True
 | .g0 s=>∃v,dB l s=some v∧(v.kind=1∨v.kind=4)
 | .loc _=>False
 | .iC _=>False
 | .un op x=>(op=3∨op=4)∧fR l x
 | .bin op x y=>(5≤op∧op≤17)∧fR l x∧fR l y
theorem xv(x:VE):x.args.length≤2:=by cases x<;>simp[VE.args]
def o5(l:List dL)(x:VE):Prop:=∀(g:Nat) (st op n:Int) (s:ByteArray) (A:Ls) (m c:Nat) (w:World),ts w g l→(bk x).rep w (au w) [.int .i64 op,.int .i64 n,.string s,.slice A m c]→
 Calls prog 144 #[.pointer (some ⟨g,0,none⟩),.agg #[.int .i64 op,.int .i64 n,.string s,.slice A m c],.int .i64 st] w fun r ab=>
  ∃(o aP:Int) (Q:ByteArray) (I:Ls) (bO aK:Nat),r=.returned (.agg #[.int .i64 o,.int .i64 aP,.string Q,.slice I bO aK])∧(bk (bL l x)).rep ab (fresh w ab) [.int .i64 o,.int .i64 aP,.string Q,.slice I bO aK]∧Ext w ab
abbrev J6(B:Nat)(wr:World)(v:Value):Nat→Prop:=fun b=>B≤b∧b<wr.heap.size∧v.ownBlock≠some b
structure yY(w wr:World)(l:List dL)(x:VE)(A:Ls)(m c k:Nat)(I:Ls)(aK:Nat)(xs:List Value):Prop where
 ext:Ext w wr
 b4:aq wr w.heap.size 54 #[.int .i64 x.a9,.int .i64 x.numOf,.string x.bu,.slice A m c]
 b6:aq wr (w.heap.size+1) 54 #[.int .i64 0,.int .i64 0,.string ⟨#[]⟩,.slice none 0 0]
 b8:aq wr (w.heap.size+2) 54 #[.int .i64 x.a9,.int .i64 x.numOf,.string ⟨#[]⟩,.slice I k aK]
 own:wr.ownsRow (w.heap.size+3) 54 4 (.slice I k aK) k xs
 aQ:D.aQ wr (J6 (w.heap.size+3) wr (.slice I k aK)) ((x.args.take k).map fun y=>bk (bL l y)) xs
theorem yY.next{w wr aT:World}{x y:VE}{m c:Nat}{I cC:Ls}{aK c3:Nat}{cK:List Value}(h:yY w wr l x A m c k I aK xs)(bb:x.args[k]?=some y)
  (he:Ext wr aS) (a5:(bk (bL l y)).rep aS (fresh wr aS) cK) (aC:aT.ownsRow (w.heap.size+3) 54 4 (.slice cC (k+1) c3) (k+1) (xs++cK)) (a2:aS.grownBy aT (Value.slice I k aK).ownBlock)
  (O:(Value.slice cC (k+1) c3).ownBlock=(Value.slice I k aK).ownBlock∨(Value.slice cC (k+1) c3).ownBlock=some (aS.heap.size+1)) (hX:aT.setCell ⟨w.heap.size+2,3,none⟩ (.slice cC (k+1) c3)=X) :
  yY w X l x A m c (k+1) cC c3 (xs++cK):=by
 have ak:∀g,(Value.slice I k aK).ownBlock=some g→w.heap.size+3≤g∧g<wr.heap.size:=fun g a2=>h.own.lt g a2;have d:=h.b8.lt;have e1:=he.size;have e2:=a2.size;have b8:=cL hX;have a:∀b,b<aS.heap.size→b≠w.heap.size+2→some b≠(Value.slice I k aK).ownBlock→X.heap[b]?=aS.heap[b]?:=fun b ac av aV=>(b8.block b ad av).trans (a2.block b ac aV);have bf:∀b,b<w.heap.size+3→some b≠(Value.slice I k aK).ownBlock:=fun b O he=>by have:=ak b he.symm;omega
 have cf:∀b,b<wr.heap.size→b≠w.heap.size+2→some b≠(Value.slice I k aK).ownBlock→X.heap[b]?=wr.heap[b]?:=fun b ac av aV=>(a b ad av aV).trans (he.block b ac fun h=>h);have H:X.heap.size=aT.heap.size:=by rw[←hX];simp
 refine⟨?_,?_,?_,?_,?_,?_⟩
 ·refine⟨?_,?_,?_,by have:=h.ext.size;omega,fun b O _=>?_⟩
  ·exact b8.os.trans (a2.os.trans (he.os.trans h.ext.os))
  ·exact b8.tape.trans (a2.tape.trans (he.tape.trans h.ext.tape))
  ·exact b8.output.trans (a2.output.trans (he.output.trans h.ext.output))
  ·have:=h.ext.size;exact(cf b ad ad (bf b ad)).trans (h.ext.block b O fun h=>h)
 ·exact(cf _ ad ad (bf _ ad)).trans h.b4
 ·exact(cf _ ad ad (bf _ ad)).trans h.b6
 ·have cF:aq aT (w.heap.size+2) 54 #[.int .i64 x.a9,.int .i64 x.numOf,.string ⟨#[]⟩,.slice I k aK]:=(h.b8.ai he).grown a2 (bf _ ad);rw[←hX];exact cF.aM 3 _
 ·refine⟨aC.1,?_⟩;rcases aC.2 with av|⟨g,cap,cur,bM,j,a9,rest⟩
  ·exact .inl av
  ·exact .inr ⟨g,cap,cur,bM,j,(b8.block g (Array.getElem?_eq_some_iff.1 a9).1 ad).trans a9,rest⟩
 ·rw[List.take_add_one,bb,KN];refine D.cH ?_ ?_
  ·refine D.bV (fun b aZ=>⟨aZ.1,by have:=aZ.2.1;omega,fun hc=>?_⟩) _ _ (D.bU (fun b aZ=>cf b aZ.2.1 (aD aZ.1) fun he=>aZ.2.2 he.symm) _ _ h.aQ);rcases O with O|O
   ·rw[O] at hc;exact aZ.2.2 hc
   ·rw[O] at hc;injection hc with hc;have:=aZ.2.1;omega
  ·simp only[Option.toList_some,KM,Le];rw[D.bj];refine D.aL (fun b aZ=>⟨by have:=aZ.1;omega,by have:=aZ.2;omega,fun hc=>?_⟩) _ _ (D.aS (fun b aZ=>a b aZ.2 (aD aZ.1) fun he=>by have:=(ak b he.symm).2;have:=aZ.1;omega) _ _ a5);rcases O with O|O
   ·rw[O] at hc;have:=(ak b hc).2;have:=aZ.1;omega
   ·rw[O] at hc;injection hc with hc;have:=aZ.2;omega
theorem wB(l:List dL)(x:VE)(h:(∃op y,x=.un op y)∨∃op y z,x=.bin op y z):(bL l x).a9=x.a9∧(bL l x).numOf=x.numOf∧(bL l x).bu=⟨#[]⟩∧(bL l x).args=x.args.map (bL l):=by
 rcases h with⟨op,y,rfl⟩|⟨op,y,z,rfl⟩<;>exact⟨rfl,rfl,rfl,rfl⟩
theorem xC{w:World}{g:Nat}{aj:Value}{cs:Array Value}(hs:cs.size=4)(aR:aq V g 54 cs)(aw:Ext w V)(a2:w.heap.size≤g)(hX:(((V.setCell ⟨g,0,none⟩ v0).setCell ⟨g,1,none⟩ v1).setCell ⟨g,2,none⟩ v2).setCell ⟨g,3,none⟩ aj=X):
  aq X g 54 #[v0,v1,v2,aj]∧Ext w X∧Fr (fun b=>b=g) V X:=by
 subst hX;refine⟨?_,(((aw.setCell (.inr a2) _).setCell (.inr a2) _).setCell (.inr a2) _).setCell (.inr a2) _,((((Fr.refl (fun b=>b=g) V).setCell (.inl rfl) _).setCell (.inl rfl) _).setCell (.inl rfl) _).setCell (.inl rfl) _⟩;have:=(((aR.aM 0 v0).aM 1 v1).aM 2 v2).aM 3 aj
 match cs,hs with
 | ⟨[c0,c1,c2,c3]⟩,_=>exact this
namespace Bp
theorem pj(h:p:=by
 have al:m≤2:=by rw[←hs.1,KK];exact xv x
 have ce:x.args.length=m:=by rw[←hs.1,KK]
 obtain⟨bH,ca,bm,cp⟩:=iS ce bS hs ao;have ck:=ae (wB l x r);clear a5 ao bS hs ce r;go_enter func144,ntmps144;go_upto_region 1 with(fail);generalize ba:World.alloc _ _=W;have aw:=iO ba;have b7:=gB ba;have cD:=fZ ba;have cY:W.heap.size=w.heap.size+2:=by rw[←ba];simp
 clear ba;obtain⟨a0,ai,af⟩:=b7.two;go_upto_region 7 with(fail);generalize hV:World.alloc _ _=V;have L:=aU hV;have hC:aq V (w.heap.size+2) 54 #[.int .i64 x.a9,.int .i64 x.numOf,.string ⟨#[]⟩,.slice none 0 0]:=hV▸aq.hL _ _ _ cY.symm;have HA:=ae (show yY w V l x A m c 0 none 0 [] from ⟨aw.trans L,b7.ai L,cD.ai L,hC,⟨by simp,.inl ⟨rfl,rfl⟩⟩,by simp only[List.take_zero,Le,D.aQ]⟩);clear hV L hC b7 cD aw cY a0 ai af;go_wp2;go_loopw [9] (fun bd wr=>∃(k:Nat) (I:Ls) (aK:Nat) (xs:List Value),k≤m∧bd=.int .i64 k∧yY w wr l x A m c k I aK xs) (fun bd _=>m - (intOf bd).toNat)
 case atStart=>exact⟨0,none,0,[],ad,rfl,HA.o⟩
 case round=>
  obtain⟨k,I,aK,xs,ap,rfl,bw⟩:=hrel;clear HA;have HA:=ae bw;obtain⟨a0,ai,af⟩:=bw.b4.two;obtain⟨a8,am,aF⟩:=bw.b6.two;obtain⟨e0,a6,aP⟩:=bw.b8.two;by_cases ak:k<m
  ·obtain⟨b,o,y,cs,rfl,O,bb,Q,bp,Z⟩:=(bm.on (Fr.ext bw.ext)).gZ c8 ak
   match cs,bp with
   | [cE,cw,cG,b5],_=>
   have c0:=Z 0 cE rfl;have c1:=Z 1 cw rfl;have c2:=Z 2 cG rfl;have c3:=Z 3 b5 rfl;simp only[KQ] at c0;have aX:b<wr.heap.size:=O;obtain⟨B,bG,bc,e,cv,b0⟩:=a1.1 Q;simp only[List.cons.injEq,and_true] at e;obtain⟨rfl,rfl,rfl,rfl⟩:=e;obtain⟨bC,H⟩:=aI bb Q;have bR:=ae (cp.o k y bb);have F:=ae (ca.on bw.ext);clear bb Q b0 Z O bw a8 am aF;go_wp2;refine eK (fun _=>False) [(0,3),(1,0),(2,3),(3,3),(4,0),(5,3),(6,3),(7,0),(8,3),(9,1),(10,1),(11,2),(12,3),(13,2)] ?_;refine pf ?_;refine ph ?_
   iterate 2 refine pf ?_
   refine ph ?_
   iterate 2 refine pf ?_
   refine ph ?_;refine pf ?_;refine aJ rfl (fun K hK=>?_);go_simp;refine(bR.o g st _ _ _ _ _ _ _ (F.on Lo.drew) (D.on H.o (Fr.ext Lo.drew))).mono ?_;rintro e aS ⟨o1,n1,s1,bY,da,cM,rfl,cb,ar⟩;refine dz hK (ar) ?_;clear hK K;have aN:Ext wr aS:=Fr.aF ar;have G:(bk (bL l y)).rep aS (fresh wr aS) [.int .i64 o1,.int .i64 n1,.string s1,.slice bY da cM]:=cb;have au:=ag aN G;refine q0 ?_;refine ax rfl (fun K hK=>?_);rw[if_pos (by rfl)];have cF:w.heap.size+3≤aS.heap.size:=by have:=HA.b8.lt;have:=aN.size;omega
   refine x3 _ pv (.tmp 40) (.tmp 49) (by rfl) (w.heap.size+3) (.slice I k aK) k xs _ (by rfl) (b1 HA.own (Fr.ext aN)) (by rfl) (by rfl) (by simp[Value.oneCell']) ad ad cF ?_;intro v2 aT az bB E;obtain⟨cC,be,rfl,bA,_⟩:=b2 az;have i:aq aT (w.heap.size+2) 54 _:=(HA.b8.ai aN).grown bB (fun he=>by have:=HA.own.lt _ he.symm;omega);have b4:=aB az bB E;clear az bB E cb G ar a0 ai af e0 a6 aP c0 c1 c2 c3 aX;obtain⟨e0,a6,aP⟩:=i.two;refine dO hK ?_;clear hK K;refine pf ?_;refine ax rfl (fun K hK=>?_);go_simp;refine dO hK ?_;clear hK K;refine aE ?_;clear e0 a6 aP;generalize hX:World.setCell aT _ _=X;have bW:=ae (HA.next bC.o au.1 au.2 b4.1 b4.2.1 b4.2.2 hX);clear hX i aN;go_wp2;go_roundw
   case rel=>exact⟨k+1,cC,be,_,ad,by go_num,bW.o⟩
   case measure=>exact aH
  ·obtain rfl:m=k:=ad;clear bw;go_wp2;generalize hX:World.setCell _ _ _=X;obtain⟨bF,a7,aY⟩:=xC rfl HA.b6 HA.ext (Nat.le_succ _) hX;obtain⟨bl,aA,aO⟩:=bF.two;clear a0 ai af a8 am aF e0 a6 aP;refine Ln (v:=.agg #[.int .i64 x.a9,.int .i64 x.numOf,.string ⟨#[]⟩,.slice I m aK]) (by simp[results,Tryz.results144,go_sem,bl]) rfl ?_;refine⟨_,_,_,_,_,_,rfl,?_,a7⟩;obtain⟨ac,av,aV,bz⟩:=ck.o;have aC:=HA.own;obtain⟨_,_,bM,hle,_⟩:=b2 aC;injection bM with eg u hv3;have bU:=HA.aQ;have ak:∀g,(Value.slice I m aK).ownBlock=some g→w.heap.size+3≤g∧g<wr.heap.size:=fun g a2=>aC.lt g a2;have cd:X.heap.size=wr.heap.size:=by rw[←hX];simp
   rw[←bH.o,List.take_length] at bU;refine a1.2 ⟨I,m,aK,by rw[ac,av,aV],ad,?_⟩;rw[bz,List.map_map];have f:X.ownsRow (w.heap.size+3) 54 4 (.slice I m aK) m xs:=by
    refine⟨aC.1,?_⟩;rcases aC.2 with av|⟨g,cap,cur,bM,j,a9,rest⟩
    ·exact .inl av
    ·exact .inr ⟨g,cap,cur,bM,j,(aY.block g (Array.getElem?_eq_some_iff.1 a9).1 ad).trans a9,rest⟩
   refine Sl.qe f (D.bV (fun b aZ=>⟨by have:=aZ.1;omega,by have:=aZ.2.1;omega⟩) _ _ (D.bU (fun b aZ=>aY.block b aZ.2.1 (aD aZ.1)) _ _ bU)) (by rw[KK];exact bH.o) (fun g _ ac av=>⟨ad,av⟩)
 ):p:=h
end Bp
open Bp in
theorem ry(l:List dL)(x:VE)(r:(∃op y,x=.un op y)∨∃op y z,x=.bin op y z)(cB:(x.a9 == 2)=false)(ao:∀(k:Nat) (y:VE),x.args[k]?=some y→o5 l y):o5 l x:=by
 intro g st op n s A m c w bS a5;exact pg
def VE.leaf:VE→Prop
 | .un _ _=>False
 | .bin _ _ _=>False
 | _=>True
namespace Bq
theorem pj(h:p:=by
 have al:m≤2:=by rw[←hs.1,KK];exact xv x
 have ce:x.args.length=m:=by rw[←hs.1,KK]
 obtain⟨ca,bm,cp⟩:=eh bS hs ao;clear a5 ao bS hs;go_enter func144,ntmps144;go_upto_region 1 with(fail);generalize ba:World.alloc _ _=W;have aw:=iO ba;have b7:=gB ba;have cD:=fZ ba;have cY:W.heap.size=w.heap.size+2:=by rw[←ba];simp
 clear ba;obtain⟨bq,T,b6⟩:=eh aw b7 cD;obtain⟨a0,ai,af⟩:=b7.two;obtain⟨a8,am,aF⟩:=cD.two;clear aw b7 cD
 cases x with
 | loc j=>exact hx.elim
 | iC j=>exact hx.elim
 | g0 s=>
  obtain⟨v,J,ap⟩:=hx;have d:=ae (show bL l (.g0 s)=if v.kind=1 then .iC v.n else .loc v.n by unfold bL;simp only[J]);simp only[VE.a9,VE.numOf,VE.bu] at *;go_wp2_with(fail);refine(mX g l s v J ap st W (ca.on bq.o)).mono ?_;rintro e aS ⟨rfl,ar⟩;have bu:=ae (bq.trans ar);have i:=ae (b6.ai ar);clear ar a0 ai af a8 am aF J;obtain⟨bi,cI,bD⟩:=v;simp only[qY] at *;go_upto_region 3 with(fail);generalize hV:World.alloc _ _=V;have L:=aU hV;have a4:=ae (bu.trans L);have u:=ae (i.ai L);have hC:=aG hV;obtain⟨a0,ai,af⟩:=hC.two;obtain⟨a8,am,aF⟩:=u.two;clear hV L hC;rcases ap with rfl|rfl
  ·go_wp2;generalize hX:World.setCell _ _ _=X;obtain⟨bF,a7,_⟩:=xC rfl u.o a4.o (Nat.le_succ _) hX;obtain⟨e0,a6,aP⟩:=bF.two;clear a0 ai af a8 am aF;refine Ln (v:=.agg #[.int .i64 19,.int .i64 bD,.string ⟨#[]⟩,.slice none 0 0]) (by simp[results,Tryz.results144,go_sem,e0]) rfl ?_;refine⟨_,_,_,_,_,_,rfl,?_,a7⟩;rw[show bL l (.g0 s)=.iC bD by simpa using d.o];exact a1.2 ⟨none,0,0,rfl,KG _,Sl.bO _⟩
  ·go_wp2;generalize hX:World.setCell _ _ _=X;obtain⟨bF,a7,_⟩:=xC rfl u.o a4.o (Nat.le_succ _) hX;obtain⟨e0,a6,aP⟩:=bF.two;clear a0 ai af a8 am aF;refine Ln (v:=.agg #[.int .i64 18,.int .i64 bD,.string ⟨#[]⟩,.slice none 0 0]) (by simp[results,Tryz.results144,go_sem,e0]) rfl ?_;refine⟨_,_,_,_,_,_,rfl,?_,a7⟩;rw[show bL l (.g0 s)=.loc bD by simpa using d.o]
   exact a1.2 ⟨none,0,0,rfl,KG _,Sl.bO _⟩
 | num n=>
  obtain rfl:0=m:=ce;simp only[VE.a9,VE.numOf,VE.bu] at *;go_upto_region 7 with(fail);generalize hV:World.alloc _ _=V;have L:=aU hV;have a4:=ae (bq.trans L);have u:=ae (b6.ai L);have hC:aq V (w.heap.size+2) 54 #[.int .i64 1,.int .i64 n,.string ⟨#[]⟩,.slice none 0 0]:=hV▸aq.hL _ _ _ cY.symm;have f:=T.ai L;clear a0 ai af a8 am aF;obtain⟨c0,b1,bt⟩:=f.two;obtain⟨a0,ai,af⟩:=hC.two;obtain⟨a8,am,aF⟩:=u.two;clear hV L hC f;go_wp2;refine wp_loop_rounds 1 ?_;rw[rounds_succ];go_wp2;generalize hX:World.setCell _ _ _=X;obtain⟨bF,a7,_⟩:=xC rfl u.o a4.o (Nat.le_succ _) hX;obtain⟨e0,a6,aP⟩:=bF.two;clear a0 ai af a8 am aF;refine Ln (v:=.agg #[.int .i64 1,.int .i64 n,.string ⟨#[]⟩,.slice none 0 0]) (by simp[results,Tryz.results144,go_sem,e0]) rfl ?_
  exact⟨_,_,_,_,_,_,rfl,a1.2 ⟨none,0,0,rfl,KG _,Sl.bO _⟩,a7⟩
 | un op y=>exact bR.elim
 | bin op y z=>exact bR.elim
 ):p:=h
end Bq
open Bq in
theorem rz(l:List dL)(x:VE)(hx:fR l x)(bR:x.leaf)(ao:∀(k:Nat) (y:VE),x.args[k]?=some y→o5 l y):o5 l x:=by
 intro g st op n s A m c w bS a5;exact pg
theorem kW(l:List dL)(x:VE)(hx:fR l x)(ao:∀(k:Nat) (y:VE),x.args[k]?=some y→o5 l y):o5 l x:=by
 cases x with
 | un op y=>exact ry l _ (.inl ⟨_,_,rfl⟩) (by rcases hx.1 with h|h<;>(show (op == 2)=false;rw[h];rfl)) ao
 | bin op y z=>exact ry l _ (.inr ⟨_,_,_,rfl⟩) (by have:=hx.1.1;show (op == 2)=false;simp;omega) ao
 | num n=>exact rz l _ hx trivial ao
 | g0 n=>exact rz l _ hx trivial ao
 | loc j=>exact hx.elim
 | iC j=>exact hx.elim
theorem gf(l:List dL):∀(x:VE),fR l x→o5 l x
 | .num n,h=>kW l _ h fun k y bb=>by simp[VE.args] at bb
 | .g0 n,h=>kW l _ h fun k y bb=>by simp[VE.args] at bb
 | .loc n,h=>h.elim
 | .iC n,h=>h.elim
 | .un op y,h=>kW l _ h fun k z bt=>by
  match k,bt with
  | 0,bt=>simp[VE.args] at bt;subst bt;exact gf l y h.2
 | .bin op x y,h=>kW l _ h fun k z bt=>by
  match k,bt with
  | 0,bt=>simp[VE.args] at bt;subst bt;exact gf l x h.2.1
  | 1,bt=>simp[VE.args] at bt;subst bt;exact gf l y h.2.2
structure x7(w:World)(g:Nat)(M:List bI):Prop where
 lt:g<w.heap.size
 ex:∃A n c,n≤1000000∧w.cell? ⟨g,1,none⟩=some (.slice A n c)∧Sl w (au w) A n (M.map ey)
theorem x7.on{w ab:World}{g:Nat}{M:List bI}(h:x7 w g M)(O:Ext w ab):x7 ab g M:=by
 exact C8
def qq(M:List bI)(l:List dL)(r:eO):Prop:=∃v,dB l r.name=some v∧
 ((v.kind=5∧r.idx=none)∨(v.kind=2∧∃m,0≤v.n∧M[v.n.toNat]?=some m∧(0<m.size→∃e,r.idx=some e∧fR l e)∧(¬0<m.size→r.idx=none)))
theorem dT{w:World}{p:bR}:(di p).rep w P cs↔∃A n c,cs=[.bool p.param,.int .i64 p.index,.slice A n c]∧n≤c∧Sl w P A n (p.at_.toList.map bk):=by
 unfold di;rw[bK,fp];constructor
 ·rintro⟨y,rfl,h⟩;rw[bm] at h;obtain⟨cG,rfl,h⟩:=h;rw[aN] at h;obtain⟨A,n,c,b5,rfl,hc,hs,aV⟩:=h;exact r7
 ·rintro⟨A,n,c,rfl,hc,hs⟩;exact⟨_,rfl,bm.2 ⟨_,rfl,aN.2 ⟨A,n,c,[],rfl,hc,hs,aP.2 rfl⟩⟩⟩
theorem pM{w:World}{g:Nat}{c0 c1 c2:Value}(aR:aq V g t #[c0,c1,c2])(aw:Ext w V)(a2:w.heap.size≤g)(hX:((V.setCell ⟨g,0,none⟩ v0).setCell ⟨g,1,none⟩ v1).setCell ⟨g,2,none⟩ v2=X):
  aq X g t #[v0,v1,v2]∧Ext w X∧Fr (fun b=>b=g) V X:=by
 subst hX;exact⟨((aR.aM 0 v0).aM 1 v1).aM 2 v2,((aw.setCell (.inr a2) _).setCell (.inr a2) _).setCell (.inr a2) _,(((Fr.refl (fun b=>b=g) V).setCell (.inl rfl) _).setCell (.inl rfl) _).setCell (.inl rfl) _⟩
def GY(w:World)(p:bR)(e:Ending)(ab:World):Prop:=
 ∃(b:Bool) (i:Int) (A:Ls) (n c:Nat),e=.returned (.agg #[.bool b,.int .i64 i,.slice A n c])∧(di p).rep ab (fresh w ab) [.bool b,.int .i64 i,.slice A n c]∧Ext w ab
def va:Prop:=∀(g:Nat) (l:List dL) (M:List bI) (r:eO),qq M l r→∀(st:Int) (s:ByteArray) (A:Ls) (n c:Nat) (w:World),ts w g l→x7 w g M→(ky r).rep w (au w) [.string s,.slice A n c]→
  Calls prog 147 #[.pointer (some ⟨g,0,none⟩),.agg #[.string s,.slice A n c],.int .i64 st] w (GY w (l6 l r))
theorem D5{w ab:World}{B e z:Nat}{v:Value}(h:w.ownsRow B e z v n xs)(ap:∀b,B≤b→b<w.heap.size→ab.heap[b]?=w.heap[b]?):ab.ownsRow B e z v n xs:=by
 refine⟨h.1,?_⟩;rcases h.2 with av|⟨ag,cap,cur,bM,j,a9,rest⟩
 ·exact .inl av
 ·exact .inr ⟨ag,cap,cur,bM,j,(ap ag j (Array.getElem?_eq_some_iff.1 a9).1).trans a9,rest⟩
namespace BN
theorem dC(h:p:=by
 clear bU aL a6;generalize bC:World.setCell aT _ _=cT;have cg:=cL bC;have bX:aq cT X.heap.size 56 #[.bool false,.int .i64 mi,.slice cC 1 be]:=bC▸bf.aM 2 _;have al:=ah.on cg ad;have bp:=ab.on cg ad;have j:=ae cg;clear bC bf ah ab cg;obtain⟨a0,ai,af⟩:=bp.two;obtain⟨bU,aL,a6⟩:=bX.two;obtain⟨d6,dy,dA⟩:=al.two;go_wp2;rw[rounds_succ];go_wp2;generalize cr:World.setCell _ _ _=Y;obtain⟨az,aN,a3⟩:=b4.o;have bQ:=a3.size;have aW:=aN.size;have bF:=j.size;have cf:Ext w cT:=⟨j.os.trans ((a9.trans (aN.trans a3)).os),j.tape.trans ((a9.trans (aN.trans a3)).tape),j.output.trans ((a9.trans (aN.trans a3)).output),KX (a9.trans (aN.trans a3)).size bF,
  fun k ap _=>(j.block k (KH ap (a9.trans (aN.trans a3)).size) ad).trans ((a9.trans (aN.trans a3)).block k ap fun h=>h)⟩
 obtain⟨bI,bE,bz⟩:=pM al cf (Nat.le_succ _) cr;obtain⟨bl,aA,aO⟩:=bI.two;refine Ln (v:=.agg #[.bool false,.int .i64 mi,.slice cC 1 be]) (by simp[results,Tryz.results147,go_sem,bl]) rfl ?_;refine⟨_,_,_,_,_,rfl,?_,bE⟩;rw[bw.o];refine dT.2 ⟨cC,1,be,rfl,ad,?_⟩;simp only[hx,Option.map_some,Option.toList_some,KM,Le];have c4:=bz.size;have fO:=cU.lt;have cj:∀b,dQ.heap.size≤b→b<aT.heap.size→Y.heap[b]?=aT.heap[b]?:=fun b ac av=>(bz.block b ad ad).trans (j.block b av ad);have f:=D5 az cj;simp only[KY,Lh] at f;refine Sl.qe f ?_ rfl (fun ag _ ac av=>⟨ad,av⟩);rw[D.bj];exact D.aL (fun b aZ=>⟨by have:=aZ.1;omega,by have:=aZ.2;omega⟩) _ _ (D.aS (fun b aZ=>(cj b aZ.1 (aD aZ.2)).trans (a3.block b aZ.2 fun h=>h)) _ _ au.o)
 ):p:=h
theorem Av(h:p:=by
 refine dm rfl (by rfl) ?_
 try simp only[PU]
 refine dm rfl (by rfl) ?_
 try simp only[PU]
 refine ih rfl (by rfl) ?_
 try simp only[PU]
 refine dm rfl (by rfl) ?_
 try simp only[PU]
 iterate 2 refine pf ?_
 refine aE ?_;go_wp2;refine wp_loop_rounds 1 ?_;rw[rounds_succ];go_wp2;generalize cr:World.setCell _ _ _=Y;obtain⟨bI,bE,_⟩:=pM bb.o a9.o (Nat.le_succ _) cr;obtain⟨bl,aA,aO⟩:=bI.two;clear cr;refine Ln (v:=.agg #[.bool true,.int .i64 bD,.slice none 0 0]) (by simp[results,Tryz.results147,go_sem,bl]) rfl ?_;exact zg
 ):p:=h
theorem eQ(h:p:=by
 refine tf ?_;refine b3 ?_;generalize hX:World.setCell _ _ _=X;obtain⟨bo,br,_⟩:=pM b5 bj aj hX;have a4:=ae (bq.trans br);have bg:=ae (T.ai br);have u:=ae (b6.ai br);clear hX a8 am aF b5 bj aj;obtain⟨a8,am,aF⟩:=bo.two;go_upto_region 6 with(fail);generalize hV:World.alloc _ _=dQ;have L:=aU hV;have dr:=bo.ai L;have bh:=aG hV;have a9:=ae (a4.trans L);have N:=bg.ai L;have bb:=ae (u.ai L);have H:w.heap.size+2≤X.heap.size:=u.lt;obtain⟨bu,cU⟩:=aI N bh;clear hV L bo a8 am aF;obtain⟨a8,am,aF⟩:=dr.two;obtain⟨a0,ai,af⟩:=N.two;obtain⟨bU,aL,a6⟩:=bh.two;obtain⟨d6,dy,dA⟩:=bb.two;have b1:w.heap.size+2≤dQ.heap.size:=ad;clear dr N bh;obtain⟨bi,cI,bD⟩:=v;simp only at *;rcases c7.o with⟨cm,an⟩|⟨av,m,h0,hm,c9,c3⟩
 ·subst cm;have aM:n=0:=by have:=bm.1;rw[an] at this;exact this.symm
  subst aM;go_wp2;refine eK (fun _=>False) [(0,3),(1,0),(2,3),(3,3),(4,3),(5,3),(6,3),(7,3),(8,0),(9,3),(10,0),(11,3),(12,3),(13,0),(14,3),(15,3),(16,3)] ?_;refine pf ?_;refine ph ?_
  iterate 2 refine pf ?_
  refine dm rfl (by rfl) ?_;exact Au
 ·subst av;obtain⟨mi,rfl⟩:=KL h0;rw[Lc] at hm;obtain⟨_,MA,mn,mc,cK,co,F⟩:=cR.on a9.o;have bx:mi<mn:=by have:=(List.getElem?_eq_some_iff.1 hm).1;have:=F.1;rw[KK] at this;omega
  obtain⟨ht,bn,bO,cs,rfl,aV,aQ,bM,bK,bd⟩:=F.gZ (z:=3) (fun _=>rfl) bx;rw[hm] at aQ;injection aQ with aQ;subst aQ;obtain rfl:=fb.1 bM;have f2:=bd 2 _ rfl;have bH:ht<dQ.heap.size:=aV;have bB:g<dQ.heap.size:=KH ca.lt a9.size;clear F bK bd bM aV;by_cases bt:0<m.size
  ·have bT:decide (m.size > 0)=true:=by simpa using bt
   obtain⟨x,hx,ay⟩:=c9 bt;have aH:=bm.on (Fr.ext a9.o);rw[hx] at aH;obtain rfl:1=n:=aH.1;obtain⟨b,o,bs,Z,bv,E,rfl,O,aC,e0,e1,e2,e3⟩:=Sl.D2 aH (c8 x);obtain⟨B,bG,bc,e,cv,b0⟩:=a1.1 aC;simp only[List.cons.injEq,and_true] at e;obtain⟨rfl,rfl,rfl,rfl⟩:=e;have aX:b<dQ.heap.size:=O;have ak:=ae aC;have bR:=ae (gf l x ay);have bW:=ae (ca.on a9.o);clear aC b0 O aH c9 c3;go_wp2;refine eK (fun _=>False) [(0,3),(1,0),(2,3),(3,3),(4,3),(5,3),(6,3),(7,3),(8,0),(9,3),(10,0),(11,3),(12,3),(13,0),(14,3),(15,3),(16,3)] ?_;refine pf ?_;refine ph ?_
   iterate 6 refine pf ?_
   refine ph ?_;refine pf ?_;refine ph ?_
   iterate 2 refine pf ?_
   refine ph ?_
   iterate 3 refine pf ?_
   refine aE ?_;go_wp2;refine wp_loop_rounds 2 ?_;rw[rounds_succ];go_wp2;refine eK (fun _=>False) [(0,3),(1,0),(2,3),(3,3),(4,0),(5,3),(6,3),(7,0),(8,3),(9,1),(10,1),(11,2),(12,3),(13,2)] ?_;refine pf ?_;refine bP (v:=?_) rfl (by rfl) (fun V hV=>?_) ?_;rotate_left
   ·obtain⟨hVc,hVf⟩:=Fr.jk hV
    (go_simp<;>with_reducible rfl)
   try simp only[PU]
   iterate 2 refine pf ?_
   refine bP (v:=?_) rfl (by rfl) (fun V hV=>?_) ?_;rotate_left
   ·obtain⟨hVc,hVf⟩:=Fr.jk hV
    (go_simp<;>with_reducible rfl)
   try simp only[PU]
   iterate 2 refine pf ?_
   refine bP (v:=?_) rfl (by rfl) (fun V hV=>?_) ?_;rotate_left
   ·obtain⟨hVc,hVf⟩:=Fr.jk hV
    (go_simp<;>with_reducible rfl)
   try simp only[PU]
   refine pf ?_;refine aJ rfl (fun K hK=>?_);go_simp;refine(bR.o g st _ _ _ _ _ _ _ (bW.on Lo.drew.drew) (D.on ak.o (Fr.ext Lo.drew.drew))).mono ?_;rintro e aS ⟨o1,n1,s1,bY,da,cM,rfl,cb,ar⟩;refine dz hK (ar) ?_;clear hK K;have aN:Ext dQ aS:=Fr.aF (Fr.aF ar);have G:(bk (bL l x)).rep aS (fresh dQ aS) [.int .i64 o1,.int .i64 n1,.string s1,.slice bY da cM]:=cb;have au:=ae G;refine q0 ?_;refine ax rfl (fun K hK=>?_);rw[if_pos (by rfl)];have aW:=aN.size;refine x3 _ pv (.tmp 79) (.tmp 88) (by rfl) dQ.heap.size (.slice none 0 0) 0 [] _ (by rfl) ⟨by simp,.inl ⟨rfl,rfl⟩⟩ (by rfl) (by rfl) (by simp[Value.oneCell']) ad ad aW ?_;intro v2 aT az a7 _;obtain⟨cC,be,rfl,bA,_⟩:=b2 az;have a3:Ext aS aT:=Lo.grown a7 (by simp[Value.ownBlock]);have bf:=(cU.ai aN).ai a3;have ah:=(bb.ai aN).ai a3;have ab:=(bu.ai aN).ai a3;have b4:=aB az aN a3;clear az a7 cb G ar aN a3 a0 ai af a8 am aF bU aL a6 d6 dy dA e0 e1 e2 e3 aX f2 bH bB co;obtain⟨bU,aL,a6⟩:=bf.two;exact sw
  ·have bT:decide (m.size > 0)=false:=by simp;omega
   have an:=c3 ad;have aM:n=0:=by have:=bm.1;rw[an] at this;exact this.symm
   subst aM;clear c9 c3;go_wp2;refine eK (fun _=>False) [(0,3),(1,0),(2,3),(3,3),(4,3),(5,3),(6,3),(7,3),(8,0),(9,3),(10,0),(11,3),(12,3),(13,0),(14,3),(15,3),(16,3)] ?_;refine pf ?_;refine ph ?_
   iterate 6 refine pf ?_
   refine ph ?_;refine pf ?_;refine ph ?_
   iterate 2 refine pf ?_
   refine ph ?_
   iterate 3 refine pf ?_
   refine aE ?_;go_wp2;refine wp_loop_rounds 1 ?_;rw[rounds_succ];go_wp2;generalize cr:World.setCell _ _ _=Y;obtain⟨bI,bE,_⟩:=pM bb.o a9.o (Nat.le_succ _) cr;obtain⟨bl,aA,aO⟩:=bI.two;clear cr;refine Ln (v:=.agg #[.bool false,.int .i64 mi,.slice none 0 0]) (by simp[results,Tryz.results147,go_sem,bl]) rfl ?_;exact zg
 ):p:=h
theorem vy(h:p:=by
 refine(dV S ln lc l r.name V.drew (ch.on (Fr.ext bj.drew)) dt).mono ?_;rintro e aS ⟨rfl,ar⟩;rw[bV.o];simp only[iU,qY];refine dO hK ?_;clear hK K
 iterate 3 refine tf ?_
 have cE:=aR.ai (Fr.aF ar);have aN:=bj.trans (Fr.aF ar);clear aR bj ar;exact key W.heap.size aS ⟨aN,cE,KG _⟩
 ):p:=h
theorem Al(h:p:=by
 refine la (P:=?P1) (ops:=?o1) (Q:=?q1) (R:=?r1) (tails:=?t1) (rest:=.pick [11] (fun _=>.free 12 (.stop))) (aa:=?aa) (C:=fun db V=>Ext W V∧aq V db 152 #[.string ⟨#[]⟩,.int .i64 0,.int .i64 0]∧W.heap.size≤db) (fun key=>?main) ?key
 case main=>
  refine aY ?_ ?_
  ·
   refine bN rfl (fun K hK=>?_) rfl;go_simp;refine(dV S ln lc l r.name W.drew (ch.on (Fr.ext Lo.drew)) dt).mono ?_;rintro e aS ⟨rfl,ar⟩;rw[bV.o];simp only[iU,qY];refine dO hK ?_;clear hK K
   iterate 3 refine tf ?_
   refine ao ?_;refine dP ?_;generalize hV:World.alloc _ _=V;have aR:=aG hV;have bj:Ext W V:=hV▸(Fr.aF ar).alloc _;exact Da
  ·
   exact vx
 case key=>
  rintro db V ⟨bj,b5,aj⟩;have cY:=b6.lt;have bJ:=T.lt;obtain⟨a8,am,aF⟩:=b5.two;clear a0 ai af cS;exact fj
 ):p:=h
end BN
open BN in
theorem FC:va:=by
 intro g l M r bZ st s A n c w bS hM a5;obtain⟨I,aP,aK,e,U,hs⟩:=jw.1 a5;simp only[List.cons.injEq,Value.string.injEq,Value.slice.injEq,and_true] at e;obtain⟨rfl,rfl,rfl,rfl⟩:=e;obtain⟨v,J,ap⟩:=bZ;have c7:=ae ap;have bw:=ae (show l6 l r=⟨v.kind == 5,v.n,r.idx.map (bL l)⟩ by unfold l6;simp only[J]);obtain⟨bV,ca,cR,bm⟩:=iS J bS hM hs;clear a5 hs bS hM ap J;go_enter func147,ntmps147;go_wp2;generalize ba:World.alloc _ _=W;have aw:=iO ba;have b7:=gB ba;have cD:=fZ ba;clear ba;obtain⟨bq,T,b6⟩:=eh aw b7 cD;obtain⟨a2,S,ln,lc,dt,cS,y⟩:=ca.on aw;have ch:=ae y;obtain⟨a0,ai,af⟩:=b7.two;clear aw b7 cD y;exact Ak
end Go.Proofs.YtnhhdaggkiomoaaGreat
