/- Part 14 of the proof (Scp Short LoA LoB LoC0 LoC), without conditions of its own. -/
import Derived.Test.YtjhgbdckgkppnaaGreatQ08
namespace Go.Proofs.YtjhgbdckgkppnaaGreat
open Go.RowKit Go.Proofs.Tryz
set_option maxRecDepth 1000000
set_option maxHeartbeats 25600000
set_option linter.unusedVariables false
variable{s:ByteArray}{d:D}{cs xs:List Value}{c:List aC}{l:List dw}{k n:Nat}{P:Nat→Prop}{A:GR}{p:Prop}{t:TypeId}{v0 v1 v2:Value}{V X aH:World}{e:dw}
theorem fY{w:World}{l:List D}:D.aL w P (d::l) cs↔∃x y,cs=x++y∧d.rep w P x∧D.aL w P l y:=by simp only[D.aL]
theorem fR{w:World}{r:d2}:(jB r).rep w P cs↔∃A n c,cs=[.string r.name,.slice A n c]∧n≤c∧Sl w P A n (r.idx.toList.map a4):=by
 unfold jB;rw[bw,ca];constructor
 ·rintro⟨y,rfl,h⟩;rw[aJ] at h;obtain⟨A,n,c,bA,rfl,hc,hs,aS⟩:=h;exact uo
 ·rintro⟨A,n,c,rfl,hc,hs⟩;exact r9
def bN(e:dw):D:=.st [.s e.name,.i e.kind,.i e.n]
theorem vg(e:dw):(bN e).sz=3:=rfl
theorem ho{w:World}:(bN e).rep w P cs↔cs=[.string e.name,.int .i64 e.kind,.int .i64 e.n]:=by
 unfold bN;rw[bw,ca];constructor
 ·rintro⟨y,rfl,h⟩;rw[a9] at h;exact wx
 ·rintro rfl;exact⟨_,rfl,a9.2 ⟨_,rfl,a9.2 ⟨_,rfl,aM.2 rfl⟩⟩⟩
theorem k6(x:aC):(dK x).sz=12:=by
 have ac:(mR x.expr).sz=4:=by
  cases x.expr with
  | none=>rfl
  | some x=>exact cS x
 unfold dK cV;simp only[D.sz,D.vM,ac]
def Ms(g:Nat)(cv sv:Value):Nat→Prop:=fun b=>b=g∨cv.ownBlock=some b∨sv.ownBlock=some b
structure Mv(g:Nat)(cv sv:Value)(w:World)(a f:Value)(ab:World):Prop where
 fr:Fr (Ms g cv sv) w ab
 own:∀b,b<w.heap.size→Ms g a f b→Ms g cv sv b
section
variable {g:Nat} {cv sv a f i m:Value} {w ab aQ:World}
theorem Mv.refl(g:Nat)(cv sv:Value)(w:World):Mv g cv sv w cv sv w:=⟨GN,fun _ _ h=>h⟩
theorem Mv.trans(h:Mv g cv sv w a f ab)(k:Mv g a f ab i m aQ):Mv g cv sv w i m aQ:=by
 refine⟨⟨k.fr.os.trans h.fr.os,k.fr.tape.trans h.fr.tape,k.fr.output.trans h.fr.output,Gu h.fr.size k.fr.size,fun b O hn=>?_⟩,fun b O hm=>?_⟩
 ·exact(k.fr.block b (Gc O h.fr.size) fun hm=>hn (h.own b O hm)).trans (h.fr.block b O hn)
 ·exact h.own b O (k.own b (Gc O h.fr.size) hm)
theorem Mv.gP(h:Ext w ab):Mv g cv sv w cv sv ab:=⟨h.mono fun _ h=>h.elim,fun _ _ h=>h⟩
theorem Mv.E8(h:Fr (Ms g cv sv) w ab):Mv g cv sv w cv sv ab:=⟨h,fun _ _ h=>h⟩
theorem Mv.E9(h:Mv g cv sv w a f ab):∀b,off (Ms g cv sv) w b→off (Ms g a f) ab b:=
 fun b O=>⟨Gc O.1 h.fr.size,fun hm=>O.2 (h.own b O.1 hm)⟩
theorem D.ch(h:d.rep w (off (Ms g cv sv) w) cs)(O:Mv g cv sv w a f ab):d.rep ab (off (Ms g a f) ab) cs:=
 D.aP O.E9 _ _ (D.bg (fun b ao=>O.fr.block b ao.1 ao.2) _ _ h)
theorem Sl.ch{l:List D}(h:Sl w (off (Ms g cv sv) w) A n l)(O:Mv g cv sv w a f ab):Sl ab (off (Ms g a f) ab) A n l:=
 (h.ao (fun b ao=>O.fr.block b ao.1 ao.2)).mono O.E9
end
theorem pG{w:World}{P:Nat→Prop}(t:Int):∀(code:List aC) (xs:List Value) (b:Nat),D.aL w P (code.map dK) xs→b<code.length→D.aL w P ((et code b t).map dK) (xs.set (b*12+1) (.int .i64 t))
 | [],xs,b,h,O=>by simp at O
 | x::code,xs,0,h,O=>by
  rw[Gh] at h;obtain⟨j,d,rfl,hx,a3⟩:=fY.1 h;have hl:=(D.ka _ _ hx).trans (k6 x);have e:et (x::code) 0 t={x with target:=t}::code:=rfl;rw[e,Gh,List.set_append_left _ _ ad];refine fY.2 ⟨_,_,rfl,?_,a3⟩;unfold dK at hx ⊢;rw[bw,a9] at hx ⊢;obtain⟨y,rfl,hx⟩:=hx;rw[a9] at hx;obtain⟨bu,rfl,hx⟩:=hx
  exact⟨_,rfl,a9.2 ⟨_,rfl,hx⟩⟩
 | x::code,xs,b+1,h,O=>by
  rw[Gh] at h;obtain⟨j,d,rfl,hx,a3⟩:=fY.1 h;have hl:=(D.ka _ _ hx).trans (k6 x);have aa:=pG t code d b a3 (by simpa using O);have e:et (x::code) (b+1) t=x::et code b t:=rfl;rw[e,Gh,List.set_append_right _ _ ad,hl,show (b+1)*12+1 - 12=b*12+1 by omega];exact fY.2 ⟨_,_,rfl,hx,aa⟩
theorem cd(code:List aC)(b:Nat)(t:Int):(et code b t).length=code.length:=by unfold et;rw[List.length_modify]
def jK(x:aC):Prop:=(x.op=2∨x.op=3)∨(x.ints=[]∧x.places=[])
def Bv(u:aF):Prop:=∀p∈u.procs,∀x∈p.code,jK x
theorem d1{y:aC}(h:∀x∈c,jK x)(a3:jK y):∀x∈c++[y],jK x:=fun x hx=>by
 rcases Gk.1 hx with hx|hx
 ·exact h x hx
 ·rw[GH.1 hx];exact a3
theorem i9{b:Nat}{t:Int}(h:∀x∈c,jK x):∀x∈et c b t,jK x:=fun x hx=>by
 rcases od hx with hx|⟨y,a3,rfl⟩
 ·exact h x hx
 ·exact h y (Ge a3)
theorem dd:∀(b:aj) (l:List dw) (n:Int) (c:List aC),(∀x∈c,jK x)→∀x∈(b2 b l n c).1,jK x
 | .nil,_,_,c,h=>h
 | .set true s e rest,l,n,c,h=>dd rest _ _ _ (d1 h (.inr ⟨rfl,rfl⟩))
 | .set false s e rest,l,n,c,h=>dd rest _ _ _ (d1 h (.inr ⟨rfl,rfl⟩))
 | .call g s aO rest,l,n,c,h=>dd rest _ _ _ (d1 h (.inl (by cases g<;>simp[jj])))
 | .lock u r rest,l,n,c,h=>dd rest _ _ _ (d1 h (.inr ⟨rfl,rfl⟩))
 | .ite e th el rest,l,n,c,h=>by
  have ac:=dd th l n _ (d1 (y:=hP (bt l e) 0) h (.inr ⟨rfl,rfl⟩));simp only[b2];refine dd rest _ _ _ ?_;split
  ·exact i9 ac
  ·exact i9 (dd el l _ _ (i9 (d1 ac (.inr ⟨rfl,rfl⟩))))
 | .fj e th rest,l,n,c,h=>by
  have ac:=dd th l n _ (d1 (y:=hP (bt l e) 0) h (.inr ⟨rfl,rfl⟩))
  exact dd rest _ _ _ (i9 (d1 ac (.inr ⟨rfl,rfl⟩)))
 | .ret rest,l,n,c,h=>dd rest _ _ _ (d1 h (.inr ⟨rfl,rfl⟩))
theorem uK(p:bC):Bv (eH p):=fun q bu=>by
 simp only[eH,GD] at bu;obtain⟨f,_,rfl⟩:=bu;exact d1 (dd _ _ _ _ (by simp)) (.inr ⟨rfl,rfl⟩)
structure vV(u:aF):Prop where
 ok:cU u
 sh:Bv u
theorem vV.EZ{u:aF}{f:aq}(h:vV u)(hF:bW u f):∃bh x,u.procs[f.proc.toNat]?=some bh∧bh.code[f.pc.toNat]?=some x∧f.proc.toNat<u.procs.length∧f.pc.toNat<bh.code.length∧0≤f.proc∧0≤f.pc∧(∃len:Nat,bh.code.length=len+1∧gS (bs u) bh.locals bh.av len x)∧x.ints.length≤200∧x.places.length≤200∧(x.op≠8→f.pc+1<bh.code.length)∧oy (bs u) bh:=by
 obtain⟨bh,x,hp,U,hx,len,hl,aJ,hn⟩:=n5 h.ok hF;have ac:=(List.getElem?_eq_some_iff.1 hp).1;have J:=(List.getElem?_eq_some_iff.1 hx).1;have hlen:x.ints.length≤200∧x.places.length≤200:=by
  rcases h.sh bh (Ge hp) x (Ge hx) with aS|⟨aS,bo⟩
  ·rcases aJ with⟨bo,_⟩|⟨_,_,sg,_,hs,cr,aY,_⟩|⟨bo,_⟩|⟨bo,_⟩|⟨bo,_⟩|⟨bo,_⟩
   ·omega
   ·simp only[bs,List.getElem?_map] at hs
    cases bu:u.procs[x.target.toNat]? with
    | none=>rw[bu] at hs;cases hs
    | some r=>
     rw[bu] at hs;simp only[Option.map_some,GI] at hs;have aX:=h.ok.procs r (Ge bu);have:=aX.ints;have:=aX.av;subst hs;simp only at cr aY;omega
   ·omega
   ·omega
   ·omega
   ·omega
  ·rw[aS,bo];simp
 exact⟨bh,x,hp,hx,ac,J,hF.proc,hF.pc,⟨len,hl,aJ⟩,hlen.1,hlen.2,hn,U⟩
theorem uZ{P:Program}(S:World){o:Oper}{a:Act}{K:Act→World→Prop}{Q:Exit→Act→World→Prop}{e:TypeId}{z:Value}{size bytes:Nat}(bb:b0 P t e z size bytes)(s x:Operand)
  (bi:o.op=.call {callee:=.builtin .append,args:=#[s,x],argTypes:=#[t,t]})
  (base:Nat) (v:Value) (n:Nat) (xs:List Value) (cs:Array Value) (hs:a.eval s=v) (I:S.ownsRow base e size v n xs)
  (hx:a.eval x=.slice (some ⟨S.heap.size,0,none⟩) 1 1) (T:cs.size=size) (ac:∀u∈cs.toList,u.oneCell'=true)
  (r:(n+1)*bytes≤140737488355328) (H:n+1≤140737488355328) (C:base≤S.heap.size)
  (h:∀M ab,ab.ownsRow base e size M (n+1) (xs++cs.toList)→S.grownBy ab v.ownBlock→(M.ownBlock=v.ownBlock∨M.ownBlock=some (S.heap.size+1))→K (a.put o.dst M) ab):o.wp P a (S.alloc (.cells cs e)) K Q:=by
 refine je _ bb s x bi base v n xs hs (I.alloc _) _ 1 1 cs.toList hx (Src.block (heap_alloc_new S _) 1 ad ac) r H (by simp;omega) (fun h=>nomatch h) fun M ab J aS bo=>?_;exact h M ab J ⟨aS.os,aS.tape,aS.output,by have:=aS.size;simp at this;omega,fun k ap a2=>(aS.block k (by simp;omega) a2).trans (Below.heap_alloc S _ k ap)⟩ (by simpa using bo)
theorem lQ:b0 prog 53 55 (.agg #[.int .i64 0,.int .i64 0,.string ⟨#[]⟩,.slice none 0 0]) 4 56:=b0.mk' Tryz.underlying53 (by kernel_rfl) rfl ad
abbrev fresh(w ab:World):Nat→Prop:=fun b=>w.heap.size≤b∧b<ab.heap.size
theorem Az{w aQ:World}(h:d.rep aH (fresh w aH) cs)(O:Ext aH aQ):d.rep aQ (fresh w aQ) cs:=
 D.aP (fun _ ao=>⟨ao.1,Gc ao.2 O.size⟩) _ _ (D.bg (fun b ao=>O.block b ao.2 (fun h=>h)) _ _ h)
theorem sX{S w ab:World}(h:d.rep ab (fresh w ab) cs)(O:S.heap.size≤w.heap.size):d.rep ab (fresh S ab) cs:=
 D.aP (fun _ ao=>⟨Gu O ao.1,ao.2⟩) _ _ h
def mS(e:dw):Value:=.agg #[.string e.name,.int .i64 e.kind,.int .i64 e.n]
def gM:Option dw→Value
 | some e=>.tuple #[mS e,.bool true]
 | none=>.tuple #[.agg #[.string ⟨#[]⟩,.int .i64 0,.int .i64 0],.bool false]
theorem iW(h:∀(j:Nat) (x:dw),l[j]?=some x→x.name≠s):dh l s=none:=by
 unfold dh;rw[List.find?_eq_none];exact wH
theorem q8(ap:l[k]?=some e)(he:e.name=s)(h:∀(j:Nat) (x:dw),j<k→l[j]?=some x→x.name≠s):dh l s=some e:=by
 induction l generalizing k with
 | nil=>simp at ap
 | cons a l aa=>
  cases k with
  | zero=>
   simp only[List.getElem?_cons_zero,GI] at ap;subst ap;unfold dh
   rw[List.find?_cons_of_pos (by simpa using he)]
  | succ k=>
   simp only[List.getElem?_cons_succ] at ap;have aV:=h 0 a ad rfl;unfold dh;rw[List.find?_cons_of_neg (by simpa using aV)];exact aa ap fun j x ba hx=>h (j+1) x ad (by simpa using hx)
theorem c8(A:GR)(n c:Nat)(l:List dw)(s:ByteArray)(w:World)(h:Sl w (au w) A n (l.map bN))(hn:n≤1000000) :
  Calls prog 77 #[.slice A n c,.string s] w fun e ab=>e=.returned (gM (dh l s))∧Ext w ab:=by
 have H:=ae h;have b0:=ae (show l.length=n by rw[←h.1,Gf]);clear h;go_enter func77,ntmps77;go_wp2;generalize bg:World.alloc _ _=W;have av:Ext w W:=bg▸GN.alloc _;have aT:ag W w.heap.size 149 #[.string ⟨#[]⟩,.int .i64 0,.int .i64 0]:=bg▸GO;clear bg;have bh:=ae av;have a8:=ae (H.on (Fr.ext av));obtain⟨a0,al,af⟩:=aT.two;have a4:=ae aT;clear av aT
 go_loop [6] (fun E=>∃k:Nat,k≤n∧E=.int .i64 k∧∀(j:Nat) (x:dw),j<k→l[j]?=some x→x.name≠s) (fun E=>n - (intOf E).toNat)
 case atStart=>exact⟨0,ad,rfl,fun j x h=>ad⟩
 case round=>
  obtain⟨k,ap,rfl,a2⟩:=hrel;have bB:=ae a2;clear a2;by_cases ao:k<n
  ·obtain⟨b,o,x,cs,rfl,O,hx,aX,a1,Z⟩:=a8.fJ vg ao;obtain rfl:=ho.1 aX;have c0:=Z 0 _ rfl;have c1:=Z 1 _ rfl;have c2:=Z 2 _ rfl;simp only[Gl] at c0;have aN:b<W.heap.size:=O;have aU:=ae hx;clear hx aX a1 Z O;by_cases hs:x.name=s
   ·have bW:=ae (q8 aU.o hs bB.o);subst hs;go_wp2;generalize ah:World.setCell _ _ _=X;have bD:ag X w.heap.size 149 #[.string x.name,.int .i64 x.kind,.int .i64 x.n]:=ah▸((a4.aH 0 _).aH 1 _).aH 2 _;have aO:Ext w X:=ah▸((bh.setCell (.inr (Gb _)) _).setCell (.inr (Gb _)) _).setCell (.inr (Gb _)) _;obtain⟨e0,bl,a5⟩:=bD.two;clear a0 al af;refine GM (v:=.tuple #[.agg #[.string x.name,.int .i64 x.kind,.int .i64 x.n],.bool true]) (by simp[results,Tryz.results77,go_sem,e0]) rfl ?_;exact⟨by rw[bW.o];rfl,aO⟩
   ·have q:=qC hs;have t:=ae hs;clear hs;go_wp2
    go_round
    case rel=>exact⟨k+1,ad,by go_num,fun j y ba a3=>by
     by_cases u:j=k
     ·subst u;rw[aU.o] at a3;injection a3 with a3;subst a3;exact t.o
     ·exact bB.o j y ad a3⟩
    case measure=>simp[intOf];omega
  ·have bW:=ae (iW (l:=l) (s:=s) fun j x ba=>bB.o j x (by have:=(List.getElem?_eq_some_iff.1 ba).1;have:=b0.o;omega) ba);go_wp2;generalize ah:World.setCell _ _ _=X;have bD:ag X w.heap.size 149 #[.string ⟨#[]⟩,.int .i64 0,.int .i64 0]:=ah▸((a4.aH 0 _).aH 1 _).aH 2 _;have aO:Ext w X:=ah▸((bh.setCell (.inr (Gb _)) _).setCell (.inr (Gb _)) _).setCell (.inr (Gb _)) _;obtain⟨e0,bl,a5⟩:=bD.two;clear a0 al af;refine GM (v:=.tuple #[.agg #[.string ⟨#[]⟩,.int .i64 0,.int .i64 0],.bool false]) (by simp[results,Tryz.results77,go_sem,e0]) rfl ?_;exact⟨by rw[bW.o];rfl,aO⟩
structure qO(w:World)(g:Nat)(l:List dw):Prop where
 lt:g<w.heap.size
 ex:∃A n c,n≤1000000∧w.cell? ⟨g,3,none⟩=some (.slice A n c)∧Sl w (au w) A n (l.map bN)
theorem qO.on{w ab:World}{g:Nat}(h:qO w g l)(O:Ext w ab):qO ab g l:=by
 exact zU
namespace yh
theorem gB(h:p:=by
 have aT:ag W w.heap.size 149 #[.string ⟨#[]⟩,.int .i64 0,.int .i64 0]:=bg▸GO;obtain⟨aM,A,n,c,hn,c3,hs⟩:=H.on av;have a4:=ae aT;have bh:=ae av;have a8:=ae hs;clear bg av aT hs;go_wp2_with (fail);refine(c8 A n c l s W a8.o hn).mono ?_;rintro e aH ⟨rfl,ar⟩;have bp:=ae (bh.trans ar);have G:=ae (a4.al ar);rw[aw];simp only[gM,mS];clear ar c3 aM;go_upto_region 2 with(fail);generalize hV:World.alloc _ _=V;have t:Ext aH V:=hV▸GN.alloc _;have aW:=ae (bp.trans t);have bk:=ae (G.al t);have hC:ag V aH.heap.size 149 #[.string v.name,.int .i64 v.kind,.int .i64 v.n]:=hV▸GO;obtain⟨a0,al,af⟩:=hC.two;obtain⟨a7,am,aE⟩:=bk.two;clear hV t hC;have fin:∀X,X=((V.setCell ⟨w.heap.size,0,none⟩ (.string v.name)).setCell ⟨w.heap.size,1,none⟩ (.int .i64 v.kind)).setCell ⟨w.heap.size,2,none⟩ (.int .i64 v.n)→ag X w.heap.size 149 #[.string v.name,.int .i64 v.kind,.int .i64 v.n]∧Ext w X:=by
  rintro X rfl;exact⟨((bk.aH 0 _).aH 1 _).aH 2 _,((aW.setCell (.inr (Gb _)) _).setCell (.inr (Gb _)) _).setCell (.inr (Gb _)) _⟩
 have a:=ae fin;clear fin;obtain⟨ba,dq,cj⟩:=v;simp only at *;rcases ap with rfl|rfl
 all_goals
  go_wp2;generalize ah:World.setCell _ _ _=X;obtain⟨bL,ay⟩:=a.o X ah.symm;obtain⟨e0,bl,a5⟩:=bL.two;clear a0 al af a7 am aE;refine GM (v:=.agg #[.string ba,.int .i64 _,.int .i64 cj]) (by simp[results,Tryz.results138,go_sem,e0];rfl) rfl ?_;exact⟨rfl,ay⟩
 ):p:=h
end yh
open yh in
theorem lF(g:Nat)(l:List dw)(s:ByteArray)(v:dw)(aw:dh l s=some v)(ap:v.kind=1∨v.kind=4)(st:Int)(w:World)(h:qO w g l) :
  Calls prog 138 #[.pointer (some ⟨g,0,none⟩),.string s,.int .i64 st] w fun e ab=>e=.returned (mS v)∧Ext w ab:=by
 have H:=ae h;clear h;go_enter func138,ntmps138;exact gA
def fx(l:List dw):VE→Prop
 | .num _=>True
 | .ga s=>∃v,dh l s=some v∧(v.kind=1∨v.kind=4)
 | .loc _=>False
 | .hR _=>False
 | .un op x=>(op=3∨op=4)∧fx l x
 | .bin op x y=>(5≤op∧op≤17)∧fx l x∧fx l y
theorem uz(x:VE):x.args.length≤2:=by cases x<;>simp[VE.args]
def ns(l:List dw)(x:VE):Prop:=∀(g:Nat) (st op n:Int) (s:ByteArray) (A:GR) (m c:Nat) (w:World),qO w g l→(a4 x).rep w (au w) [.int .i64 op,.int .i64 n,.string s,.slice A m c]→
 Calls prog 137 #[.pointer (some ⟨g,0,none⟩),.agg #[.int .i64 op,.int .i64 n,.string s,.slice A m c],.int .i64 st] w fun r ab=>
  ∃(o L:Int) (Q:ByteArray) (az:GR) (b3 aG:Nat),r=.returned (.agg #[.int .i64 o,.int .i64 L,.string Q,.slice az b3 aG])∧(a4 (bt l x)).rep ab (fresh w ab) [.int .i64 o,.int .i64 L,.string Q,.slice az b3 aG]∧Ext w ab
abbrev F7(B:Nat)(wr:World)(v:Value):Nat→Prop:=fun b=>B≤b∧b<wr.heap.size∧v.ownBlock≠some b
structure vY(w wr:World)(l:List dw)(x:VE)(A:GR)(m c k:Nat)(az:GR)(aG:Nat)(xs:List Value):Prop where
 ext:Ext w wr
 b4:ag wr w.heap.size 55 #[.int .i64 x.aU,.int .i64 x.numOf,.string x.aZ,.slice A m c]
 b6:ag wr (w.heap.size+1) 55 #[.int .i64 0,.int .i64 0,.string ⟨#[]⟩,.slice none 0 0]
 b8:ag wr (w.heap.size+2) 55 #[.int .i64 x.aU,.int .i64 x.numOf,.string ⟨#[]⟩,.slice az k aG]
 own:wr.ownsRow (w.heap.size+3) 55 4 (.slice az k aG) k xs
 aL:D.aL wr (F7 (w.heap.size+3) wr (.slice az k aG)) ((x.args.take k).map fun y=>a4 (bt l y)) xs
theorem vY.next{w wr aQ:World}{x y:VE}{m c:Nat}{az cl:GR}{aG c3:Nat}{cd:List Value}(h:vY w wr l x A m c k az aG xs)(a3:x.args[k]?=some y)
  (he:Ext wr aH) (aX:(a4 (bt l y)).rep aH (fresh wr aH) cd) (I:aQ.ownsRow (w.heap.size+3) 55 4 (.slice cl (k+1) c3) (k+1) (xs++cd)) (aM:aH.grownBy aQ (Value.slice az k aG).ownBlock)
  (O:(Value.slice cl (k+1) c3).ownBlock=(Value.slice az k aG).ownBlock∨(Value.slice cl (k+1) c3).ownBlock=some (aH.heap.size+1)) (ah:aQ.setCell ⟨w.heap.size+2,3,none⟩ (.slice cl (k+1) c3)=X) :
  vY w X l x A m c (k+1) cl c3 (xs++cd):=by
 have ao:∀g,(Value.slice az k aG).ownBlock=some g→w.heap.size+3≤g∧g<wr.heap.size:=fun g aM=>h.own.lt g aM;have d:=h.b8.lt;have e1:=he.size;have e2:=aM.size;have bV:Fr (fun b=>b=w.heap.size+2) aQ X:=ah▸(Fr.refl (fun b=>b=w.heap.size+2) aQ).setCell (.inl rfl) _;have a:∀b,b<aH.heap.size→b≠w.heap.size+2→some b≠(Value.slice az k aG).ownBlock→X.heap[b]?=aH.heap[b]?:=fun b ac J aS=>(bV.block b ad J).trans (aM.block b ac aS);have a2:∀b,b<w.heap.size+3→some b≠(Value.slice az k aG).ownBlock:=fun b O he=>by have:=ao b he.symm;omega
 have bF:∀b,b<wr.heap.size→b≠w.heap.size+2→some b≠(Value.slice az k aG).ownBlock→X.heap[b]?=wr.heap[b]?:=fun b ac J aS=>(a b ad J aS).trans (he.block b ac fun h=>h);have cR:X.heap.size=aQ.heap.size:=by rw[←ah];simp
 refine⟨?_,?_,?_,?_,?_,?_⟩
 ·refine⟨?_,?_,?_,by have:=h.ext.size;omega,fun b O _=>?_⟩
  ·exact bV.os.trans (aM.os.trans (he.os.trans h.ext.os))
  ·exact bV.tape.trans (aM.tape.trans (he.tape.trans h.ext.tape))
  ·exact bV.output.trans (aM.output.trans (he.output.trans h.ext.output))
  ·have:=h.ext.size;exact(bF b ad ad (a2 b ad)).trans (h.ext.block b O fun h=>h)
 ·exact(bF _ ad ad (a2 _ ad)).trans h.b4
 ·exact(bF _ ad ad (a2 _ ad)).trans h.b6
 ·have H:ag aQ (w.heap.size+2) 55 #[.int .i64 x.aU,.int .i64 x.numOf,.string ⟨#[]⟩,.slice az k aG]:=(h.b8.al he).grown aM (a2 _ ad);rw[←ah];exact H.aH 3 _
 ·refine⟨I.1,?_⟩;rcases I.2 with J|⟨g,cap,cur,bC,j,bf,rest⟩
  ·exact .inl J
  ·exact .inr ⟨g,cap,cur,bC,j,(bV.block g (Array.getElem?_eq_some_iff.1 bf).1 ad).trans bf,rest⟩
 ·rw[List.take_add_one,a3,Gi];refine D.er ?_ ?_
  ·refine D.cr (fun b U=>⟨U.1,by have:=U.2.1;omega,fun hc=>?_⟩) _ _ (D.cJ (fun b U=>bF b U.2.1 (aB U.1) fun he=>U.2.2 he.symm) _ _ h.aL);rcases O with O|O
   ·rw[O] at hc;exact U.2.2 hc
   ·rw[O] at hc;injection hc with hc;have:=U.2.1;omega
  ·simp only[Option.toList_some,Gh,GC];rw[D.bH];refine D.aP (fun b U=>⟨by have:=U.1;omega,by have:=U.2;omega,fun hc=>?_⟩) _ _ (D.bg (fun b U=>a b U.2 (aB U.1) fun he=>by have:=(ao b he.symm).2;have:=U.1;omega) _ _ aX);rcases O with O|O
   ·rw[O] at hc;have:=(ao b hc).2;have:=U.1;omega
   ·rw[O] at hc;injection hc with hc;have:=U.2;omega
theorem tx(l:List dw)(x:VE)(h:(∃op y,x=.un op y)∨∃op y z,x=.bin op y z):(bt l x).aU=x.aU∧(bt l x).numOf=x.numOf∧(bt l x).aZ=⟨#[]⟩∧(bt l x).args=x.args.map (bt l):=by
 rcases h with⟨op,y,rfl⟩|⟨op,y,z,rfl⟩<;>exact⟨rfl,rfl,rfl,rfl⟩
theorem uG{w:World}{g:Nat}{r:Value}{cs:Array Value}(hs:cs.size=4)(aT:ag V g 55 cs)(av:Ext w V)(aM:w.heap.size≤g)(ah:(((V.setCell ⟨g,0,none⟩ v0).setCell ⟨g,1,none⟩ v1).setCell ⟨g,2,none⟩ v2).setCell ⟨g,3,none⟩ r=X):
  ag X g 55 #[v0,v1,v2,r]∧Ext w X∧Fr (fun b=>b=g) V X:=by
 subst ah;refine⟨?_,(((av.setCell (.inr aM) _).setCell (.inr aM) _).setCell (.inr aM) _).setCell (.inr aM) _,((((Fr.refl (fun b=>b=g) V).setCell (.inl rfl) _).setCell (.inl rfl) _).setCell (.inl rfl) _).setCell (.inl rfl) _⟩;have:=(((aT.aH 0 v0).aH 1 v1).aH 2 v2).aH 3 r
 match cs,hs with
 | ⟨[c0,c1,c2,c3]⟩,_=>exact this
namespace yl
theorem xq(h:p:=by
 obtain⟨a0,al,af⟩:=b1.two;go_upto_region 7 with(fail);generalize hV:World.alloc _ _=V;have t:Ext W V:=hV▸GN.alloc _;have hC:ag V (w.heap.size+2) 55 #[.int .i64 x.aU,.int .i64 x.numOf,.string ⟨#[]⟩,.slice none 0 0]:=hV▸ag.bR _ _ _ cH.symm;have HA:=ae (show vY w V l x A m c 0 none 0 [] from ⟨av.trans t,b1.al t,cq.al t,hC,⟨by simp,.inl ⟨rfl,rfl⟩⟩,by simp only[List.take_zero,GC,D.aL]⟩);clear hV t hC b1 cq av cH a0 al af;go_wp2;go_loopw [9] (fun E wr=>∃(k:Nat) (az:GR) (aG:Nat) (xs:List Value),k≤m∧E=.int .i64 k∧vY w wr l x A m c k az aG xs) (fun E _=>m - (intOf E).toNat)
 case atStart=>exact⟨0,none,0,[],ad,rfl,HA.o⟩
 case round=>
  obtain⟨k,az,aG,xs,ap,rfl,bb⟩:=hrel;clear HA;have HA:=ae bb;obtain⟨a0,al,af⟩:=bb.b4.two;obtain⟨a7,am,aE⟩:=bb.b6.two;obtain⟨e0,bl,a5⟩:=bb.b8.two;by_cases ao:k<m
  ·obtain⟨b,o,y,cs,rfl,O,a3,Q,a1,Z⟩:=(a8.on (Fr.ext bb.ext)).fJ cS ao
   match cs,a1 with
   | [b8,b2,bu,bA],_=>
   have c0:=Z 0 b8 rfl;have c1:=Z 1 b2 rfl;have c2:=Z 2 bu rfl;have c3:=Z 3 bA rfl;simp only[Gl] at c0;have aN:b<wr.heap.size:=O;obtain⟨B,bR,bc,e,cP,cf⟩:=aV.1 Q;simp only[List.cons.injEq,and_true] at e;obtain⟨rfl,rfl,rfl,rfl⟩:=e;have bM:=ae a3;have F:=ae Q;have bs:=ae (cW.o k y a3);have N:=ae (b0.on bb.ext);clear a3 Q cf Z O bb a7 am aE;go_wp2;refine eh (fun _=>False) [(0,3),(1,0),(2,3),(3,3),(4,0),(5,3),(6,3),(7,0),(8,3),(9,1),(10,1),(11,2),(12,3),(13,2)] ?_;refine pf ?_;refine ph ?_
   iterate 2 refine pf ?_
   refine ph ?_
   iterate 2 refine pf ?_
   refine ph ?_;refine pf ?_;refine aA rfl (fun K hK=>?_);go_simp;refine(bs.o g st _ _ _ _ _ _ _ (N.on GN.drew) (D.on F.o (Fr.ext GN.drew))).mono ?_;rintro e aH ⟨dS,n1,s1,cC,cM,cJ,rfl,cK,ar⟩;refine hK _ _ (ar) ?_;clear hK K
   try simp only[PU]
   have aI:Ext wr aH:=Fr.aE ar;have T:(a4 (bt l y)).rep aH (fresh wr aH) [.int .i64 dS,.int .i64 n1,.string s1,.slice cC cM cJ]:=cK;have aF:=ai aI T;refine uQ ?_;refine ax rfl (fun K hK=>?_);rw[if_pos (by rfl)];have H:w.heap.size+3≤aH.heap.size:=by have:=HA.b8.lt;have:=aI.size;omega
   refine uZ _ lQ (.tmp 40) (.tmp 49) (by rfl) (w.heap.size+3) (.slice az k aG) k xs _ (by rfl) (cn HA.own (Fr.ext aI)) (by rfl) (by rfl) (by simp[Value.oneCell']) ad ad H ?_;intro v2 aQ d an G;obtain⟨cl,aj,rfl,bK,_⟩:=bT d;have i:ag aQ (w.heap.size+2) 55 _:=(HA.b8.al aI).grown an (fun he=>by have:=HA.own.lt _ he.symm;omega);have bB:=aK d an G;clear d an G cK T ar a0 al af e0 bl a5 c0 c1 c2 c3 aN;obtain⟨e0,bl,a5⟩:=i.two;refine hK _ _ ?_;clear hK K
   try simp only[PU]
   refine pf ?_;refine ax rfl (fun K hK=>?_);go_simp;refine hK _ _ ?_;clear hK K
   try simp only[PU]
   refine aD ?_;clear e0 bl a5;generalize ah:World.setCell aQ _ _=X;have ct:=ae (HA.next bM.o aF.1 aF.2 bB.1 bB.2.1 bB.2.2 ah);clear ah i aI;go_wp2;go_roundw
   case rel=>exact⟨k+1,cl,aj,_,ad,by go_num,ct.o⟩
   case measure=>simp[intOf];omega
  ·obtain rfl:m=k:=ad;clear bb;go_wp2;generalize ah:World.setCell _ _ _=X;obtain⟨bL,ay,r⟩:=uG rfl HA.b6 HA.ext (Nat.le_succ _) ah;obtain⟨bx,bd,be⟩:=bL.two;clear a0 al af a7 am aE e0 bl a5;refine GM (v:=.agg #[.int .i64 x.aU,.int .i64 x.numOf,.string ⟨#[]⟩,.slice az m aG]) (by simp[results,Tryz.results137,go_sem,bx]) rfl ?_;refine⟨_,_,_,_,_,_,rfl,?_,ay⟩;obtain⟨ac,J,aS,bo⟩:=b9.o;have I:=HA.own;obtain⟨_,_,bC,hle,_⟩:=bT I;injection bC with ea u hv3;have bQ:=HA.aL;have ao:∀g,(Value.slice az m aG).ownBlock=some g→w.heap.size+3≤g∧g<wr.heap.size:=fun g aM=>I.lt g aM;have bh:X.heap.size=wr.heap.size:=by rw[←ah];simp
   rw[←bO.o,List.take_length] at bQ;refine aV.2 ⟨az,m,aG,by rw[ac,J,aS],ad,?_⟩;rw[bo,List.map_map];have f:X.ownsRow (w.heap.size+3) 55 4 (.slice az m aG) m xs:=by
    refine⟨I.1,?_⟩;rcases I.2 with J|⟨g,cap,cur,bC,j,bf,rest⟩
    ·exact .inl J
    ·exact .inr ⟨g,cap,cur,bC,j,(r.block g (Array.getElem?_eq_some_iff.1 bf).1 ad).trans bf,rest⟩
   refine Sl.om f (D.cr (fun b U=>⟨by have:=U.1;omega,by have:=U.2.1;omega⟩) _ _ (D.cJ (fun b U=>r.block b U.2.1 (aB U.1)) _ _ bQ)) (by rw[Gf];exact bO.o) (fun g _ ac J=>⟨ad,J⟩)
 ):p:=h
theorem fN(h:p:=by
 exact xp
 ):p:=h
theorem nA(h:p:=by
 have L:m≤2:=by rw[←hs.1,Gf];exact uz x
 have aC:x.args.length=m:=by rw[←hs.1,Gf]
 have bO:=ae aC;have b0:=ae ca;have a8:=ae hs;have cW:=ae aa;have b9:=ae (tx l x M);clear aX aa ca hs aC M;go_enter func137,ntmps137;exact fM
 ):p:=h
end yl
open yl in
theorem pk(l:List dw)(x:VE)(M:(∃op y,x=.un op y)∨∃op y z,x=.bin op y z)(ej:(x.aU == 2)=false)(aa:∀(k:Nat) (y:VE),x.args[k]?=some y→ns l y):ns l x:=by
 intro g st op n s A m c w ca aX;exact nz
def VE.leaf:VE→Prop
 | .un _ _=>False
 | .bin _ _ _=>False
 | _=>True
namespace ym
theorem xq(h:p:=by
 have bh:=ae av;have b7:=ae b1;have N:=ae cq;obtain⟨a0,al,af⟩:=b1.two;obtain⟨a7,am,aE⟩:=cq.two;clear av b1 cq
 cases x with
 | loc j=>exact hx.elim
 | hR j=>exact hx.elim
 | ga s=>
  obtain⟨v,aw,ap⟩:=hx;have a:=ae (show bt l (.ga s)=if v.kind=1 then .hR v.n else .loc v.n by unfold bt;simp only[aw]);simp only[VE.aU,VE.numOf,VE.aZ] at *;go_wp2_with (fail);refine(lF g l s v aw ap st W (b0.on bh.o)).mono ?_;rintro e aH ⟨rfl,ar⟩;have bp:=ae (bh.trans ar);have d:=ae (N.al ar);clear ar a0 al af a7 am aE aw;obtain⟨ba,dq,cj⟩:=v;simp only[mS] at *;go_upto_region 3 with(fail);generalize hV:World.alloc _ _=V;have t:Ext aH V:=hV▸GN.alloc _;have aW:=ae (bp.trans t);have G:=ae (d.al t);have hC:ag V aH.heap.size 149 #[.string ba,.int .i64 dq,.int .i64 cj]:=hV▸GO;obtain⟨a0,al,af⟩:=hC.two;obtain⟨a7,am,aE⟩:=G.two;clear hV t hC;rcases ap with rfl|rfl
  ·go_wp2;generalize ah:World.setCell _ _ _=X;obtain⟨bL,ay,_⟩:=uG rfl G.o aW.o (Nat.le_succ _) ah;obtain⟨e0,bl,a5⟩:=bL.two;clear a0 al af a7 am aE;refine GM (v:=.agg #[.int .i64 19,.int .i64 cj,.string ⟨#[]⟩,.slice none 0 0]) (by simp[results,Tryz.results137,go_sem,e0]) rfl ?_;refine⟨_,_,_,_,_,_,rfl,?_,ay⟩;rw[show bt l (.ga s)=.hR cj by simpa using a.o];exact aV.2 ⟨none,0,0,rfl,Gb _,Sl.bu _⟩
  ·go_wp2;generalize ah:World.setCell _ _ _=X;obtain⟨bL,ay,_⟩:=uG rfl G.o aW.o (Nat.le_succ _) ah;obtain⟨e0,bl,a5⟩:=bL.two;clear a0 al af a7 am aE;refine GM (v:=.agg #[.int .i64 18,.int .i64 cj,.string ⟨#[]⟩,.slice none 0 0]) (by simp[results,Tryz.results137,go_sem,e0]) rfl ?_;refine⟨_,_,_,_,_,_,rfl,?_,ay⟩;rw[show bt l (.ga s)=.loc cj by simpa using a.o]
   exact aV.2 ⟨none,0,0,rfl,Gb _,Sl.bu _⟩
 | num n=>
  obtain rfl:0=m:=aC;simp only[VE.aU,VE.numOf,VE.aZ] at *;go_upto_region 7 with(fail);generalize hV:World.alloc _ _=V;have t:Ext W V:=hV▸GN.alloc _;have aW:=ae (bh.trans t);have G:=ae (N.al t);have hC:ag V (w.heap.size+2) 55 #[.int .i64 1,.int .i64 n,.string ⟨#[]⟩,.slice none 0 0]:=hV▸ag.bR _ _ _ cH.symm;have b:=b7.al t;clear a0 al af a7 am aE;obtain⟨c0,bw,a2⟩:=b.two;obtain⟨a0,al,af⟩:=hC.two;obtain⟨a7,am,aE⟩:=G.two;clear hV t hC b;go_wp2;refine wp_loop_rounds 1 ?_;rw[rounds_succ];go_wp2;generalize ah:World.setCell _ _ _=X;obtain⟨bL,ay,_⟩:=uG rfl G.o aW.o (Nat.le_succ _) ah;obtain⟨e0,bl,a5⟩:=bL.two;clear a0 al af a7 am aE;refine GM (v:=.agg #[.int .i64 1,.int .i64 n,.string ⟨#[]⟩,.slice none 0 0]) (by simp[results,Tryz.results137,go_sem,e0]) rfl ?_
  exact⟨_,_,_,_,_,_,rfl,aV.2 ⟨none,0,0,rfl,Gb _,Sl.bu _⟩,ay⟩
 | un op y=>exact cr.elim
 | bin op y z=>exact cr.elim
 ):p:=h
theorem fN(h:p:=by
 exact xp
 ):p:=h
theorem nA(h:p:=by
 have L:m≤2:=by rw[←hs.1,Gf];exact uz x
 have aC:x.args.length=m:=by rw[←hs.1,Gf]
 have b0:=ae ca;have a8:=ae hs;have cW:=ae aa;clear aX aa ca hs;go_enter func137,ntmps137;exact fM
 ):p:=h
end ym
open ym in
theorem po(l:List dw)(x:VE)(hx:fx l x)(cr:x.leaf)(aa:∀(k:Nat) (y:VE),x.args[k]?=some y→ns l y):ns l x:=by
 intro g st op n s A m c w ca aX;exact nz
theorem jY(l:List dw)(x:VE)(hx:fx l x)(aa:∀(k:Nat) (y:VE),x.args[k]?=some y→ns l y):ns l x:=by
 cases x with
 | un op y=>exact pk l _ (.inl ⟨_,_,rfl⟩) (by rcases hx.1 with h|h<;>(show (op == 2)=false;rw[h];rfl)) aa
 | bin op y z=>exact pk l _ (.inr ⟨_,_,_,rfl⟩) (by have:=hx.1.1;show (op == 2)=false;simp;omega) aa
 | num n=>exact po l _ hx trivial aa
 | ga n=>exact po l _ hx trivial aa
 | loc j=>exact hx.elim
 | hR j=>exact hx.elim
theorem fp(l:List dw):∀(x:VE),fx l x→ns l x
 | .num n,h=>jY l _ h fun k y a3=>by simp[VE.args] at a3
 | .ga n,h=>jY l _ h fun k y a3=>by simp[VE.args] at a3
 | .loc n,h=>h.elim
 | .hR n,h=>h.elim
 | .un op y,h=>jY l _ h fun k z bv=>by
  match k,bv with
  | 0,bv=>simp[VE.args] at bv;subst bv;exact fp l y h.2
 | .bin op x y,h=>jY l _ h fun k z bv=>by
  match k,bv with
  | 0,bv=>simp[VE.args] at bv;subst bv;exact fp l x h.2.1
  | 1,bv=>simp[VE.args] at bv;subst bv;exact fp l y h.2.2
structure u3(w:World)(g:Nat)(M:List bF):Prop where
 lt:g<w.heap.size
 ex:∃A n c,n≤1000000∧w.cell? ⟨g,1,none⟩=some (.slice A n c)∧Sl w (au w) A n (M.map d4)
theorem u3.on{w ab:World}{g:Nat}{M:List bF}(h:u3 w g M)(O:Ext w ab):u3 ab g M:=by
 exact zU
def oC(M:List bF)(l:List dw)(r:d2):Prop:=∃v,dh l r.name=some v∧
 ((v.kind=5∧r.idx=none)∨(v.kind=2∧∃m,0≤v.n∧M[v.n.toNat]?=some m∧(0<m.size→∃e,r.idx=some e∧fx l e)∧(¬0<m.size→r.idx=none)))
theorem dY{w:World}{p:bK}:(cV p).rep w P cs↔∃A n c,cs=[.bool p.param,.int .i64 p.index,.slice A n c]∧n≤c∧Sl w P A n (p.at_.toList.map a4):=by
 unfold cV;rw[bw,eE];constructor
 ·rintro⟨y,rfl,h⟩;rw[a9] at h;obtain⟨bu,rfl,h⟩:=h;rw[aJ] at h;obtain⟨A,n,c,bA,rfl,hc,hs,aS⟩:=h;exact uo
 ·rintro⟨A,n,c,rfl,hc,hs⟩;exact⟨_,rfl,a9.2 ⟨_,rfl,aJ.2 ⟨A,n,c,[],rfl,hc,hs,aM.2 rfl⟩⟩⟩
theorem mq{w:World}{g:Nat}{c0 c1 c2:Value}(aT:ag V g t #[c0,c1,c2])(av:Ext w V)(aM:w.heap.size≤g)(ah:((V.setCell ⟨g,0,none⟩ v0).setCell ⟨g,1,none⟩ v1).setCell ⟨g,2,none⟩ v2=X):
  ag X g t #[v0,v1,v2]∧Ext w X∧Fr (fun b=>b=g) V X:=by
 subst ah;exact⟨((aT.aH 0 v0).aH 1 v1).aH 2 v2,((av.setCell (.inr aM) _).setCell (.inr aM) _).setCell (.inr aM) _,(((Fr.refl (fun b=>b=g) V).setCell (.inl rfl) _).setCell (.inl rfl) _).setCell (.inl rfl) _⟩
def DP(w:World)(p:bK)(e:Ending)(ab:World):Prop:=
 ∃(b:Bool) (i:Int) (A:GR) (n c:Nat),e=.returned (.agg #[.bool b,.int .i64 i,.slice A n c])∧(cV p).rep ab (fresh w ab) [.bool b,.int .i64 i,.slice A n c]∧Ext w ab
def r6:Prop:=∀(g:Nat) (l:List dw) (M:List bF) (r:d2),oC M l r→∀(st:Int) (s:ByteArray) (A:GR) (n c:Nat) (w:World),qO w g l→u3 w g M→(jB r).rep w (au w) [.string s,.slice A n c]→
  Calls prog 140 #[.pointer (some ⟨g,0,none⟩),.agg #[.string s,.slice A n c],.int .i64 st] w (DP w (jq l r))
theorem AZ{w ab:World}{B e z:Nat}{v:Value}(h:w.ownsRow B e z v n xs)(ap:∀b,B≤b→b<w.heap.size→ab.heap[b]?=w.heap[b]?):ab.ownsRow B e z v n xs:=by
 refine⟨h.1,?_⟩;rcases h.2 with J|⟨ai,cap,cur,bC,j,bf,rest⟩
 ·exact .inl J
 ·exact .inr ⟨ai,cap,cur,bC,j,(ap ai j (Array.getElem?_eq_some_iff.1 bf).1).trans bf,rest⟩
namespace yX
theorem di(h:p:=by
 clear bM aS a1;generalize bH:World.setCell aQ _ _=bE;have cz:Fr (fun b=>b=X.heap.size) aQ bE:=bH▸(Fr.refl (fun b=>b=X.heap.size) aQ).setCell (.inl rfl) _;have bO:ag bE X.heap.size 57 #[.bool false,.int .i64 mi,.slice cl 1 aj]:=bH▸bi.aH 2 _;have au:=aq.on cz ad;have bn:=ab.on cz ad;have j:=ae cz;clear bH bi aq ab cz;obtain⟨a0,al,af⟩:=bn.two;obtain⟨bM,aS,a1⟩:=bO.two;obtain⟨dm,dH,dI⟩:=au.two;go_wp2;rw[rounds_succ];go_wp2;generalize cb:World.setCell _ _ _=Y;obtain⟨d,aI,aO⟩:=bB.o;have bq:=aO.size;have aZ:=aI.size;have bu:=j.size;have cL:Ext w bE:=⟨j.os.trans ((b6.trans (aI.trans aO)).os),j.tape.trans ((b6.trans (aI.trans aO)).tape),j.output.trans ((b6.trans (aI.trans aO)).output),Gu (b6.trans (aI.trans aO)).size bu,
  fun k ap _=>(j.block k (Gc ap (b6.trans (aI.trans aO)).size) ad).trans ((b6.trans (aI.trans aO)).block k ap fun h=>h)⟩
 obtain⟨bA,bw,bb⟩:=mq au cL (Nat.le_succ _) cb;obtain⟨bx,bd,be⟩:=bA.two;refine GM (v:=.agg #[.bool false,.int .i64 mi,.slice cl 1 aj]) (by simp[results,Tryz.results140,go_sem,bx]) rfl ?_;refine⟨_,_,_,_,_,rfl,?_,bw⟩;rw[bo.o];refine dY.2 ⟨cl,1,aj,rfl,ad,?_⟩;simp only[hx,Option.map_some,Option.toList_some,Gh,GC];have cF:=bb.size;have df:=bQ.lt;have bl:∀b,bL.heap.size≤b→b<aQ.heap.size→Y.heap[b]?=aQ.heap[b]?:=fun b ac J=>(bb.block b ad ad).trans (j.block b J ad);have f:=AZ d bl;simp only[Gv,GG] at f;refine Sl.om f ?_ rfl (fun ai _ ac J=>⟨ad,J⟩);rw[D.bH];exact D.aP (fun b U=>⟨by have:=U.1;omega,by have:=U.2;omega⟩) _ _ (D.bg (fun b U=>(bl b U.1 (aB U.2)).trans (aO.block b U.2 fun h=>h)) _ _ aF.o)
 ):p:=h
theorem xt(h:p:=by
 refine cY rfl (by rfl) ?_
 try simp only[PU]
 refine cY rfl (by rfl) ?_
 try simp only[PU]
 refine g7 rfl (by rfl) ?_
 try simp only[PU]
 refine cY rfl (by rfl) ?_
 try simp only[PU]
 iterate 2 refine pf ?_
 refine aD ?_;go_wp2;refine wp_loop_rounds 1 ?_;rw[rounds_succ];go_wp2;generalize cb:World.setCell _ _ _=Y;obtain⟨bA,bw,_⟩:=mq bk.o b6.o (Nat.le_succ _) cb;obtain⟨bx,bd,be⟩:=bA.two;clear cb;refine GM (v:=.agg #[.bool true,.int .i64 cj,.slice none 0 0]) (by simp[results,Tryz.results140,go_sem,bx]) rfl ?_;exact Du
 ):p:=h
theorem gz(h:p:=by
 refine tf ?_;refine bU ?_;generalize ah:World.setCell _ _ _=X;obtain⟨bz,br,_⟩:=mq bP S a3 ah;have aW:=ae (bh.trans br);have I:=ae (b7.al br);have G:=ae (N.al br);clear ah a7 am aE bP S a3;obtain⟨a7,am,aE⟩:=bz.two;go_upto_region 6 with(fail);generalize hV:World.alloc _ _=bL;have t:Ext X bL:=hV▸GN.alloc _;have cQ:=bz.al t;have a9:ag bL X.heap.size 57 #[.bool (v.kind == 5),.int .i64 v.n,.slice none 0 0]:=hV▸GO;have b6:=ae (aW.trans t);have y:=I.al t;have bk:=ae (G.al t);have cR:w.heap.size+2≤X.heap.size:=G.lt;have bf:=ae y;have bQ:=ae a9;clear hV t bz a7 am aE;obtain⟨a7,am,aE⟩:=cQ.two;obtain⟨a0,al,af⟩:=y.two;obtain⟨bM,aS,a1⟩:=a9.two;obtain⟨dm,dH,dI⟩:=bk.two;have bV:w.heap.size+2≤bL.heap.size:=ad;clear cQ y a9;obtain⟨ba,dq,cj⟩:=v;simp only at *;rcases cI.o with⟨cr,aJ⟩|⟨J,m,h0,hm,c5,c0⟩
 ·subst cr;have u:n=0:=by have:=a8.1;rw[aJ] at this;exact this.symm
  subst u;go_wp2;refine eh (fun _=>False) [(0,3),(1,0),(2,3),(3,3),(4,3),(5,3),(6,3),(7,3),(8,0),(9,3),(10,0),(11,3),(12,3),(13,0),(14,3),(15,3),(16,3)] ?_;refine pf ?_;refine ph ?_
  iterate 2 refine pf ?_
  refine cY rfl (by rfl) ?_;exact xr
 ·subst J;obtain⟨mi,rfl⟩:=Gg h0;rw[Gy] at hm;obtain⟨_,MA,mn,mc,bX,bS,H⟩:=dr.on b6.o;have cU:mi<mn:=by have:=(List.getElem?_eq_some_iff.1 hm).1;have:=H.1;rw[Gf] at this;omega
  obtain⟨hY,bG,b3,cs,rfl,b9,aU,bF,bC,a6⟩:=H.fJ (z:=3) (fun _=>rfl) cU;rw[hm] at aU;injection aU with aU;subst aU;obtain rfl:=ez.1 bF;have eL:=a6 2 _ rfl;have bp:hY<bL.heap.size:=b9;have an:g<bL.heap.size:=Gc b0.lt b6.size;clear H bC a6 bF b9;by_cases bv:0<m.size
  ·have bI:decide (m.size > 0)=true:=by simpa using bv
   obtain⟨x,hx,aC⟩:=c5 bv;have aP:=a8.on (Fr.ext b6.o);rw[hx] at aP;obtain rfl:1=n:=aP.1;obtain⟨b,o,bD,Z,ay,E,rfl,O,F,e0,e1,e2,e3⟩:=Sl.AV aP (cS x);obtain⟨B,bR,bc,e,cP,cf⟩:=aV.1 F;simp only[List.cons.injEq,and_true] at e;obtain⟨rfl,rfl,rfl,rfl⟩:=e;have aN:b<bL.heap.size:=O;have ao:=ae F;have bs:=ae (fp l x aC);have bN:=ae (b0.on b6.o);clear F cf O aP c5 c0;go_wp2;refine eh (fun _=>False) [(0,3),(1,0),(2,3),(3,3),(4,3),(5,3),(6,3),(7,3),(8,0),(9,3),(10,0),(11,3),(12,3),(13,0),(14,3),(15,3),(16,3)] ?_;refine pf ?_;refine ph ?_
   iterate 6 refine pf ?_
   refine ph ?_;refine pf ?_;refine ph ?_
   iterate 2 refine pf ?_
   refine ph ?_
   iterate 3 refine pf ?_
   refine aD ?_;go_wp2;refine wp_loop_rounds 2 ?_;rw[rounds_succ];go_wp2;refine eh (fun _=>False) [(0,3),(1,0),(2,3),(3,3),(4,0),(5,3),(6,3),(7,0),(8,3),(9,1),(10,1),(11,2),(12,3),(13,2)] ?_;refine pf ?_;refine bm (v:=?_) rfl (by rfl) (fun V hV=>?_) ?_;rotate_left
   ·obtain⟨hVc,hVf⟩:=Fr.fC hV
    (go_simp<;>with_reducible rfl)
   try simp only[PU]
   iterate 2 refine pf ?_
   refine bm (v:=?_) rfl (by rfl) (fun V hV=>?_) ?_;rotate_left
   ·obtain⟨hVc,hVf⟩:=Fr.fC hV
    (go_simp<;>with_reducible rfl)
   try simp only[PU]
   iterate 2 refine pf ?_
   refine bm (v:=?_) rfl (by rfl) (fun V hV=>?_) ?_;rotate_left
   ·obtain⟨hVc,hVf⟩:=Fr.fC hV
    (go_simp<;>with_reducible rfl)
   try simp only[PU]
   refine pf ?_;refine aA rfl (fun K hK=>?_);go_simp;refine(bs.o g st _ _ _ _ _ _ _ (bN.on GN.drew.drew) (D.on ao.o (Fr.ext GN.drew.drew))).mono ?_;rintro e aH ⟨dS,n1,s1,cC,cM,cJ,rfl,cK,ar⟩;refine hK _ _ (ar) ?_;clear hK K
   try simp only[PU]
   have aI:Ext bL aH:=Fr.aE (Fr.aE ar);have T:(a4 (bt l x)).rep aH (fresh bL aH) [.int .i64 dS,.int .i64 n1,.string s1,.slice cC cM cJ]:=cK;have aF:=ae T;refine uQ ?_;refine ax rfl (fun K hK=>?_);rw[if_pos (by rfl)];have aZ:=aI.size;refine uZ _ lQ (.tmp 79) (.tmp 88) (by rfl) bL.heap.size (.slice none 0 0) 0 [] _ (by rfl) ⟨by simp,.inl ⟨rfl,rfl⟩⟩ (by rfl) (by rfl) (by simp[Value.oneCell']) ad ad aZ ?_;intro v2 aQ d a2 _;obtain⟨cl,aj,rfl,bK,_⟩:=bT d;have aO:Ext aH aQ:=GN.grown a2 (by simp[Value.ownBlock]);have bi:=(bQ.al aI).al aO;have aq:=(bk.al aI).al aO;have ab:=(bf.al aI).al aO;have bB:=aK d aI aO;clear d a2 cK T ar aI aO a0 al af a7 am aE bM aS a1 dm dH dI e0 e1 e2 e3 aN eL bp an bS;obtain⟨bM,aS,a1⟩:=bi.two;exact pZ
  ·have bI:decide (m.size > 0)=false:=by simp;omega
   have aJ:=c0 ad;have u:n=0:=by have:=a8.1;rw[aJ] at this;exact this.symm
   subst u;clear c5 c0;go_wp2;refine eh (fun _=>False) [(0,3),(1,0),(2,3),(3,3),(4,3),(5,3),(6,3),(7,3),(8,0),(9,3),(10,0),(11,3),(12,3),(13,0),(14,3),(15,3),(16,3)] ?_;refine pf ?_;refine ph ?_
   iterate 6 refine pf ?_
   refine ph ?_;refine pf ?_;refine ph ?_
   iterate 2 refine pf ?_
   refine ph ?_
   iterate 3 refine pf ?_
   refine aD ?_;go_wp2;refine wp_loop_rounds 1 ?_;rw[rounds_succ];go_wp2;generalize cb:World.setCell _ _ _=Y;obtain⟨bA,bw,_⟩:=mq bk.o b6.o (Nat.le_succ _) cb;obtain⟨bx,bd,be⟩:=bA.two;clear cb;refine GM (v:=.agg #[.bool false,.int .i64 mi,.slice none 0 0]) (by simp[results,Tryz.results140,go_sem,bx]) rfl ?_;exact Du
 ):p:=h
theorem sF(h:p:=by
 exact key W.heap.size aH ⟨aI,cw,Gb _⟩
 ):p:=h
theorem sq(h:p:=by
 have S:Ext W V:=hV▸(Fr.aE ar).alloc _;exact zW
 ):p:=h
theorem xm(h:p:=by
 refine iL (P:=?dn) (ops:=?dS) (Q:=?co) (R:=?fg) (tails:=?dc) (rest:=.pick [11] (fun _=>.free 12 (.stop))) (aa:=?aa) (C:=fun cG V=>Ext W V∧ag V cG 149 #[.string ⟨#[]⟩,.int .i64 0,.int .i64 0]∧W.heap.size≤cG) (fun key=>?main) ?key
 case main=>
  refine aR ?_ ?_
  ·
   refine aY rfl (fun K hK=>?_) rfl;go_simp;refine(c8 bj ln lc l r.name W.drew (b8.on (Fr.ext GN.drew)) bJ).mono ?_;rintro e aH ⟨rfl,ar⟩;rw[bW.o];simp only[gM,mS];exact so
  ·
   refine dU ?_;refine ak ?_;refine aY rfl (fun K hK=>?_) rfl;go_simp;generalize hV:World.alloc _ _=V;have aT:ag V W.heap.size 149 #[.string ⟨#[]⟩,.int .i64 0,.int .i64 0]:=hV▸GO;have S:Ext W V:=hV▸GN.alloc _;clear hV;refine(c8 bj ln lc l r.name V.drew (b8.on (Fr.ext S.drew)) bJ).mono ?_;rintro e aH ⟨rfl,ar⟩;rw[bW.o];simp only[gM,mS];exact sE
 case key=>
  rintro cG V ⟨S,bP,a3⟩;have cH:=N.lt;have bZ:=b7.lt;obtain⟨a7,am,aE⟩:=bP.two;clear a0 al af cD;exact gy
 ):p:=h
end yX
open yX in
theorem Co:r6:=by
 intro g l M r ch st s A n c w ca a5 aX;obtain⟨az,L,aG,e,aL,hs⟩:=fR.1 aX;simp only[List.cons.injEq,Value.string.injEq,Value.slice.injEq,and_true] at e;obtain⟨rfl,rfl,rfl,rfl⟩:=e;obtain⟨v,aw,ap⟩:=ch;have cI:=ae ap;have bo:=ae (show jq l r=⟨v.kind == 5,v.n,r.idx.map (bt l)⟩ by unfold jq;simp only[aw]);have bW:=ae aw;have b0:=ae ca;have dr:=ae a5;have a8:=ae hs;clear aX hs ca a5 ap aw;go_enter func140,ntmps140;go_wp2;generalize bg:World.alloc _ _=W;have av:Ext w W:=bg▸(GN.alloc _).alloc _;have b1:ag W w.heap.size 172 #[.string r.name,.slice A n c]:=bg▸(GO).alloc _;have cq:ag W (w.heap.size+1) 57 #[.bool false,.int .i64 0,.slice none 0 0]:=bg▸ag.bR _ _ _ (by simp);clear bg;have bh:=ae av;have b7:=ae b1;have N:=ae cq;obtain⟨aM,bj,ln,lc,bJ,cD,ck⟩:=b0.on av;have b8:=ae ck;obtain⟨a0,al,af⟩:=b1.two;clear av b1 cq ck;exact xl
end Go.Proofs.YtjhgbdckgkppnaaGreat
