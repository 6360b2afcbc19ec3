/- Part 15 of the proof. No condition of its own. -/
import Derived.Test.YtbkhhfajcgkpgaaGreatQ09
namespace Go.Proofs.YtbkhhfajcgkpgaaGreat
open Go.RowKit Go.Proofs.Tryz
set_option maxRecDepth 1000000
set_option maxHeartbeats 25600000
set_option linter.unusedVariables false
variable{s:ByteArray}{d:D}{cs xs:List Value}{c:List ay}{l:List dz}{k n:Nat}{P:Nat→Prop}{A:Kr}{p:Prop}{t:TypeId}{v0 v1 v2:Value}{V X aN:World}{e:dz}
theorem gD{w:World}{l:List D}:D.aI w P (d::l) cs↔∃x y,cs=x++y∧d.rep w P x∧D.aI w P l y:=by simp only[D.aI]
theorem jl{w:World}{r:eF}:(km r).rep w P cs↔∃A n c,cs=[.string r.name,.slice A n c]∧n≤c∧Sl w P A n (r.idx.toList.map bb):=by
 unfold km;rw[bu,b9];constructor
 ·rintro⟨y,rfl,h⟩;rw[aD] at h;obtain⟨A,n,c,aa,rfl,hc,hs,aT⟩:=h;exact wQ
 ·rintro⟨A,n,c,rfl,hc,hs⟩;exact Cf
def bN(e:dz):D:=.st [.s e.name,.i e.kind,.i e.n]
theorem xN(e:dz):(bN e).sz=3:=rfl
theorem h7{w:World}:(bN e).rep w P cs↔cs=[.string e.name,.int .i64 e.kind,.int .i64 e.n]:=by
 unfold bN;rw[bu,b9];constructor
 ·rintro⟨y,rfl,h⟩;rw[aZ] at h;exact yV
 ·rintro rfl;exact⟨_,rfl,aZ.2 ⟨_,rfl,aZ.2 ⟨_,rfl,aJ.2 rfl⟩⟩⟩
theorem mf(x:ay):(dP x).sz=12:=by
 have ae:(nZ x.expr).sz=4:=by
  cases x.expr with
  | none=>rfl
  | some x=>exact cZ x
 unfold dP de;simp only[D.sz,D.yr,ae]
def Ms(g:Nat)(cv sv:Value):Nat→Prop:=fun b=>b=g∨cv.ownBlock=some b∨sv.ownBlock=some b
structure Mv(g:Nat)(cv sv:Value)(w:World)(a f:Value)(ac:World):Prop where
 fr:Fr (Ms g cv sv) w ac
 own:∀b,b<w.heap.size→Ms g a f b→Ms g cv sv b
section
variable {g:Nat} {cv sv a f i j:Value} {w ac aO:World}
theorem Mv.refl(g:Nat)(cv sv:Value)(w:World):Mv g cv sv w cv sv w:=⟨Kn,fun _ _ h=>h⟩
theorem Mv.trans(h:Mv g cv sv w a f ac)(k:Mv g a f ac i j aO):Mv g cv sv w i j aO:=by
 refine⟨⟨k.fr.os.trans h.fr.os,k.fr.tape.trans h.fr.tape,k.fr.output.trans h.fr.output,J7 h.fr.size k.fr.size,fun b O hn=>?_⟩,fun b O hm=>?_⟩
 ·exact(k.fr.block b (JR O h.fr.size) fun hm=>hn (h.own b O hm)).trans (h.fr.block b O hn)
 ·exact h.own b O (k.own b (JR O h.fr.size) hm)
theorem Mv.gR(h:Ext w ac):Mv g cv sv w cv sv ac:=⟨h.mono fun _ h=>h.elim,fun _ _ h=>h⟩
theorem Mv.HK(h:Fr (Ms g cv sv) w ac):Mv g cv sv w cv sv ac:=⟨h,fun _ _ h=>h⟩
theorem Mv.HL(h:Mv g cv sv w a f ac):∀b,off (Ms g cv sv) w b→off (Ms g a f) ac b:=
 fun b O=>⟨JR O.1 h.fr.size,fun hm=>O.2 (h.own b O.1 hm)⟩
theorem D.cG(h:d.rep w (off (Ms g cv sv) w) cs)(O:Mv g cv sv w a f ac):d.rep ac (off (Ms g a f) ac) cs:=
 D.aF O.HL _ _ (D.aN (fun b aw=>O.fr.block b aw.1 aw.2) _ _ h)
theorem Sl.cG{l:List D}(h:Sl w (off (Ms g cv sv) w) A n l)(O:Mv g cv sv w a f ac):Sl ac (off (Ms g a f) ac) A n l:=
 (h.aj (fun b aw=>O.fr.block b aw.1 aw.2)).mono O.HL
end
theorem rA{w:World}{P:Nat→Prop}(t:Int):∀(code:List ay) (xs:List Value) (b:Nat),D.aI w P (code.map dP) xs→b<code.length→D.aI w P ((fG code b t).map dP) (xs.set (b*12+1) (.int .i64 t))
 | [],xs,b,h,O=>by simp at O
 | x::code,xs,0,h,O=>by
  rw[JW] at h;obtain⟨k,d,rfl,hx,a4⟩:=gD.1 h;have hl:=(D.kY _ _ hx).trans (mf x);have e:fG (x::code) 0 t={x with target:=t}::code:=rfl;rw[e,JW,List.set_append_left _ _ ab];refine gD.2 ⟨_,_,rfl,?_,a4⟩;unfold dP at hx ⊢;rw[bu,aZ] at hx ⊢;obtain⟨y,rfl,hx⟩:=hx;rw[aZ] at hx;obtain⟨bm,rfl,hx⟩:=hx
  exact⟨_,rfl,aZ.2 ⟨_,rfl,hx⟩⟩
 | x::code,xs,b+1,h,O=>by
  rw[JW] at h;obtain⟨k,d,rfl,hx,a4⟩:=gD.1 h;have hl:=(D.kY _ _ hx).trans (mf x);have ao:=rA t code d b a4 (by simpa using O);have e:fG (x::code) (b+1) t=x::fG code b t:=rfl;rw[e,JW,List.set_append_right _ _ ab,hl,show (b+1)*12+1 - 12=b*12+1 by omega];exact gD.2 ⟨_,_,rfl,hx,ao⟩
theorem cc(code:List ay)(b:Nat)(t:Int):(fG code b t).length=code.length:=by unfold fG;rw[List.length_modify]
def kB(x:ay):Prop:=(x.op=2∨x.op=3)∨(x.ints=[]∧x.places=[])
def DC(u:av):Prop:=∀p∈u.procs,∀x∈p.code,kB x
theorem er{y:ay}(h:∀x∈c,kB x)(a4:kB y):∀x∈c++[y],kB x:=fun x hx=>by
 rcases JZ.1 hx with hx|hx
 ·exact h x hx
 ·rw[Kh.1 hx];exact a4
theorem jU{b:Nat}{t:Int}(h:∀x∈c,kB x):∀x∈fG c b t,kB x:=fun x hx=>by
 rcases pG hx with hx|⟨y,a4,rfl⟩
 ·exact h x hx
 ·exact h y (JT a4)
theorem di:∀(b:al) (l:List dz) (n:Int) (c:List ay),(∀x∈c,kB x)→∀x∈(dw b l n c).1,kB x
 | .nil,_,_,c,h=>h
 | .set true s e rest,l,n,c,h=>di rest _ _ _ (er h (.inr ⟨rfl,rfl⟩))
 | .set false s e rest,l,n,c,h=>di rest _ _ _ (er h (.inr ⟨rfl,rfl⟩))
 | .call g s aS rest,l,n,c,h=>di rest _ _ _ (er h (.inl (by cases g<;>simp[ld])))
 | .lock u r rest,l,n,c,h=>di rest _ _ _ (er h (.inr ⟨rfl,rfl⟩))
 | .ite e th el rest,l,n,c,h=>by
  have ae:=di th l n _ (er (y:=j8 (bx l e) 0) h (.inr ⟨rfl,rfl⟩));simp only[dw];refine di rest _ _ _ ?_;split
  ·exact jU ae
  ·exact jU (di el l _ _ (jU (er ae (.inr ⟨rfl,rfl⟩))))
 | .gb e th rest,l,n,c,h=>by
  have ae:=di th l n _ (er (y:=j8 (bx l e) 0) h (.inr ⟨rfl,rfl⟩))
  exact di rest _ _ _ (jU (er ae (.inr ⟨rfl,rfl⟩)))
 | .ret rest,l,n,c,h=>di rest _ _ _ (er h (.inr ⟨rfl,rfl⟩))
theorem xf(p:bB):DC (fU p):=fun q bm=>by
 simp only[fU,Ke] at bm;obtain⟨f,_,rfl⟩:=bm;exact er (di _ _ _ _ (by simp)) (.inr ⟨rfl,rfl⟩)
structure yy(u:av):Prop where
 ok:cU u
 sh:DC u
theorem yy.Hz{u:av}{f:an}(h:yy u)(hF:bQ u f):∃Q x,u.procs[f.proc.toNat]?=some Q∧Q.code[f.pc.toNat]?=some x∧f.proc.toNat<u.procs.length∧f.pc.toNat<Q.code.length∧0≤f.proc∧0≤f.pc∧(∃len:Nat,Q.code.length=len+1∧hy (bh u) Q.locals Q.aw len x)∧x.ints.length≤200∧x.places.length≤200∧(x.op≠8→f.pc+1<Q.code.length)∧pX (bh u) Q:=by
 obtain⟨Q,x,hp,aY,hx,len,hl,al,hn⟩:=pA h.ok hF;have ae:=(List.getElem?_eq_some_iff.1 hp).1;have aC:=(List.getElem?_eq_some_iff.1 hx).1;have hlen:x.ints.length≤200∧x.places.length≤200:=by
  rcases h.sh Q (JT hp) x (JT hx) with aT|⟨aT,a9⟩
  ·rcases al with⟨a9,_⟩|⟨_,_,sg,_,hs,cl,m,_⟩|⟨a9,_⟩|⟨a9,_⟩|⟨a9,_⟩|⟨a9,_⟩
   ·omega
   ·simp only[bh,List.getElem?_map] at hs
    cases bm:u.procs[x.target.toNat]? with
    | none=>rw[bm] at hs;cases hs
    | some r=>
     rw[bm] at hs;simp only[Option.map_some,Ki] at hs;have aU:=h.ok.procs r (JT bm);have:=aU.ints;have:=aU.aw;subst hs;simp only at cl m;omega
   ·omega
   ·omega
   ·omega
   ·omega
  ·rw[aT,a9];simp
 exact⟨Q,x,hp,hx,ae,aC,hF.proc,hF.pc,⟨len,hl,al⟩,hlen.1,hlen.2,hn,aY⟩
theorem xx{P:Program}(J:World){o:Oper}{a:Act}{K:Act→World→Prop}{Q:Exit→Act→World→Prop}{e:TypeId}{z:Value}{size bytes:Nat}(bk:bX P t e z size bytes)(s x:Operand)
  (a8:o.op=.call {callee:=.builtin .append,args:=#[s,x],argTypes:=#[t,t]})
  (base:Nat) (v:Value) (n:Nat) (xs:List Value) (cs:Array Value) (hs:a.eval s=v) (S:J.ownsRow base e size v n xs)
  (hx:a.eval x=.slice (some ⟨J.heap.size,0,none⟩) 1 1) (T:cs.size=size) (ae:∀u∈cs.toList,u.oneCell'=true)
  (y:(n+1)*bytes≤140737488355328) (C:n+1≤140737488355328) (r:base≤J.heap.size)
  (h:∀G ac,ac.ownsRow base e size G (n+1) (xs++cs.toList)→J.grownBy ac v.ownBlock→(G.ownBlock=v.ownBlock∨G.ownBlock=some (J.heap.size+1))→K (a.put o.dst G) ac):o.wp P a (J.alloc (.cells cs e)) K Q:=by
 refine jZ _ bk s x a8 base v n xs hs (S.alloc _) _ 1 1 cs.toList hx (Src.block (heap_alloc_new J _) 1 ab ae) y C (by simp;omega) (fun h=>nomatch h) fun G ac aC aT a9=>?_;exact h G ac aC ⟨aT.os,aT.tape,aT.output,by have:=aT.size;simp at this;omega,fun k aj a1=>(aT.block k (by simp;omega) a1).trans (Below.heap_alloc J _ k aj)⟩ (by simpa using a9)
theorem oU:bX prog 55 57 (.agg #[.int .i64 0,.int .i64 0,.string ⟨#[]⟩,.slice none 0 0]) 4 56:=bX.mk' Tryz.underlying55 (by kernel_rfl) rfl ab
abbrev fresh(w ac:World):Nat→Prop:=fun b=>w.heap.size≤b∧b<ac.heap.size
theorem CL{w aO:World}(h:d.rep aN (fresh w aN) cs)(O:Ext aN aO):d.rep aO (fresh w aO) cs:=
 D.aF (fun _ aw=>⟨aw.1,JR aw.2 O.size⟩) _ _ (D.aN (fun b aw=>O.block b aw.2 (fun h=>h)) _ _ h)
theorem vn{J w ac:World}(h:d.rep ac (fresh w ac) cs)(O:J.heap.size≤w.heap.size):d.rep ac (fresh J ac) cs:=
 D.aF (fun _ aw=>⟨J7 O aw.1,aw.2⟩) _ _ h
def qE(e:dz):Value:=.agg #[.string e.name,.int .i64 e.kind,.int .i64 e.n]
def iK:Option dz→Value
 | some e=>.tuple #[qE e,.bool true]
 | none=>.tuple #[.agg #[.string ⟨#[]⟩,.int .i64 0,.int .i64 0],.bool false]
theorem jI(h:∀(j:Nat) (x:dz),l[j]?=some x→x.name≠s):dk l s=none:=by
 unfold dk;rw[List.find?_eq_none];exact y7
theorem tv(aj:l[k]?=some e)(he:e.name=s)(h:∀(j:Nat) (x:dz),j<k→l[j]?=some x→x.name≠s):dk l s=some e:=by
 induction l generalizing k with
 | nil=>simp at aj
 | cons a l ao=>
  cases k with
  | zero=>
   simp only[List.getElem?_cons_zero,Ki] at aj;subst aj;unfold dk
   rw[List.find?_cons_of_pos (by simpa using he)]
  | succ k=>
   simp only[List.getElem?_cons_succ] at aj;have aV:=h 0 a ab rfl;unfold dk;rw[List.find?_cons_of_neg (by simpa using aV)];exact ao aj fun j x bc hx=>h (j+1) x ab (by simpa using hx)
theorem dM(A:Kr)(n c:Nat)(l:List dz)(s:ByteArray)(w:World)(h:Sl w (au w) A n (l.map bN))(hn:n≤1000000) :
  Calls prog 82 #[.slice A n c,.string s] w fun e ac=>e=.returned (iK (dk l s))∧Ext w ac:=by
 have H:=ad h;have bK:=ad (show l.length=n by rw[←h.1,JU]);clear h;go_enter func82,ntmps82;go_wp2;generalize bg:World.alloc _ _=W;have aF:Ext w W:=bg▸Kn.alloc _;have aL:af W w.heap.size 153 #[.string ⟨#[]⟩,.int .i64 0,.int .i64 0]:=bg▸Ko;clear bg;have a2:=ad aF;have bu:=ad (H.on (Fr.ext aF));obtain⟨a0,ap,ak⟩:=aL.two;have bs:=ad aL;clear aF aL
 go_loop [6] (fun ba=>∃k:Nat,k≤n∧ba=.int .i64 k∧∀(j:Nat) (x:dz),j<k→l[j]?=some x→x.name≠s) (fun ba=>n - (intOf ba).toNat)
 case atStart=>exact⟨0,ab,rfl,fun j x h=>ab⟩
 case round=>
  obtain⟨k,aj,rfl,a1⟩:=hrel;have bW:=ad a1;clear a1;by_cases aw:k<n
  ·obtain⟨b,o,x,cs,rfl,O,hx,aU,a3,Z⟩:=bu.gN xN aw;obtain rfl:=h7.1 aU;have c0:=Z 0 _ rfl;have c1:=Z 1 _ rfl;have c2:=Z 2 _ rfl;simp only[J0] at c0;have aW:b<W.heap.size:=O;have aP:=ad hx;clear hx aU a3 Z O;by_cases hs:x.name=s
   ·have bX:=ad (tv aP.o hs bW.o);subst hs;go_wp2;generalize hX:World.setCell _ _ _=X;have bH:af X w.heap.size 153 #[.string x.name,.int .i64 x.kind,.int .i64 x.n]:=hX▸((bs.aC 0 _).aC 1 _).aC 2 _;have aS:Ext w X:=hX▸((a2.setCell (.inr (JQ _)) _).setCell (.inr (JQ _)) _).setCell (.inr (JQ _)) _;obtain⟨e0,a5,aZ⟩:=bH.two;clear a0 ap ak;refine Km (v:=.tuple #[.agg #[.string x.name,.int .i64 x.kind,.int .i64 x.n],.bool true]) (by simp[results,Tryz.results82,go_sem,e0]) rfl ?_;exact⟨by rw[bX.o];rfl,aS⟩
   ·have q:=sP hs;have t:=ad hs;clear hs;go_wp2
    go_round
    case rel=>exact⟨k+1,ab,by go_num,fun j y bc a4=>by
     by_cases z:j=k
     ·subst z;rw[aP.o] at a4;injection a4 with a4;subst a4;exact t.o
     ·exact bW.o j y ab a4⟩
    case measure=>exact aB
  ·have bX:=ad (jI (l:=l) (s:=s) fun j x bc=>bW.o j x (by have:=(List.getElem?_eq_some_iff.1 bc).1;have:=bK.o;omega) bc);go_wp2;generalize hX:World.setCell _ _ _=X;have bH:af X w.heap.size 153 #[.string ⟨#[]⟩,.int .i64 0,.int .i64 0]:=hX▸((bs.aC 0 _).aC 1 _).aC 2 _;have aS:Ext w X:=hX▸((a2.setCell (.inr (JQ _)) _).setCell (.inr (JQ _)) _).setCell (.inr (JQ _)) _;obtain⟨e0,a5,aZ⟩:=bH.two;clear a0 ap ak;refine Km (v:=.tuple #[.agg #[.string ⟨#[]⟩,.int .i64 0,.int .i64 0],.bool false]) (by simp[results,Tryz.results82,go_sem,e0]) rfl ?_;exact⟨by rw[bX.o];rfl,aS⟩
structure s4(w:World)(g:Nat)(l:List dz):Prop where
 lt:g<w.heap.size
 ex:∃A n c,n≤1000000∧w.cell? ⟨g,3,none⟩=some (.slice A n c)∧Sl w (au w) A n (l.map bN)
theorem s4.on{w ac:World}{g:Nat}(h:s4 w g l)(O:Ext w ac):s4 ac g l:=by
 exact Cb
namespace AD
theorem jF(h:p:=by
 have aL:af W w.heap.size 153 #[.string ⟨#[]⟩,.int .i64 0,.int .i64 0]:=bg▸Ko;obtain⟨aJ,A,n,c,hn,c3,hs⟩:=H.on aF;obtain⟨bs,a2,bu⟩:=ez aL aF hs;clear bg aF aL hs;go_wp2_with(fail);refine(dM A n c l s W bu.o hn).mono ?_;rintro e aN ⟨rfl,ar⟩;have br:=ad (a2.trans ar);have G:=ad (bs.ak ar);rw[aD];simp only[iK,qE];clear ar c3 aJ;go_upto_region 2 with(fail);generalize hV:World.alloc _ _=V;have t:Ext aN V:=hV▸Kn.alloc _;have J:=ad (br.trans t);have bY:=ad (G.ak t);have hC:af V aN.heap.size 153 #[.string v.name,.int .i64 v.kind,.int .i64 v.n]:=hV▸Ko;obtain⟨a0,ap,ak⟩:=hC.two;obtain⟨a6,am,aI⟩:=bY.two;clear hV t hC;have fin:∀X,X=((V.setCell ⟨w.heap.size,0,none⟩ (.string v.name)).setCell ⟨w.heap.size,1,none⟩ (.int .i64 v.kind)).setCell ⟨w.heap.size,2,none⟩ (.int .i64 v.n)→af X w.heap.size 153 #[.string v.name,.int .i64 v.kind,.int .i64 v.n]∧Ext w X:=by
  rintro X rfl;exact⟨((bY.aC 0 _).aC 1 _).aC 2 _,((J.setCell (.inr (JQ _)) _).setCell (.inr (JQ _)) _).setCell (.inr (JQ _)) _⟩
 have d:=ad fin;clear fin;obtain⟨a8,cO,bC⟩:=v;simp only at *;rcases aj with rfl|rfl
 all_goals
  go_wp2;generalize hX:World.setCell _ _ _=X;obtain⟨bP,bB⟩:=d.o X hX.symm;obtain⟨e0,a5,aZ⟩:=bP.two;clear a0 ap ak a6 am aI;refine Km (v:=.agg #[.string a8,.int .i64 _,.int .i64 bC]) (by simp[results,Tryz.results135,go_sem,e0];rfl) rfl ?_;exact⟨rfl,bB⟩
 ):p:=h
end AD
open AD in
theorem mJ(g:Nat)(l:List dz)(s:ByteArray)(v:dz)(aD:dk l s=some v)(aj:v.kind=1∨v.kind=4)(st:Int)(w:World)(h:s4 w g l) :
  Calls prog 135 #[.pointer (some ⟨g,0,none⟩),.string s,.int .i64 st] w fun e ac=>e=.returned (qE v)∧Ext w ac:=by
 have H:=ad h;clear h;go_enter func135,ntmps135;exact jE
def fC(l:List dz):VE→Prop
 | .num _=>True
 | .gy s=>∃v,dk l s=some v∧(v.kind=1∨v.kind=4)
 | .loc _=>False
 | .ia _=>False
 | .un op x=>(op=3∨op=4)∧fC l x
 | .bin op x y=>(5≤op∧op≤17)∧fC l x∧fC l y
theorem w0(x:VE):x.args.length≤2:=by cases x<;>simp[VE.args]
def oI(l:List dz)(x:VE):Prop:=∀(g:Nat) (st op n:Int) (s:ByteArray) (A:Kr) (m c:Nat) (w:World),s4 w g l→(bb x).rep w (au w) [.int .i64 op,.int .i64 n,.string s,.slice A m c]→
 Calls prog 134 #[.pointer (some ⟨g,0,none⟩),.agg #[.int .i64 op,.int .i64 n,.string s,.slice A m c],.int .i64 st] w fun r ac=>
  ∃(o aZ:Int) (aV:ByteArray) (I:Kr) (bn az:Nat),r=.returned (.agg #[.int .i64 o,.int .i64 aZ,.string aV,.slice I bn az])∧(bb (bx l x)).rep ac (fresh w ac) [.int .i64 o,.int .i64 aZ,.string aV,.slice I bn az]∧Ext w ac
abbrev Jh(B:Nat)(wr:World)(v:Value):Nat→Prop:=fun b=>B≤b∧b<wr.heap.size∧v.ownBlock≠some b
structure yC(w wr:World)(l:List dz)(x:VE)(A:Kr)(m c k:Nat)(I:Kr)(az:Nat)(xs:List Value):Prop where
 ext:Ext w wr
 b4:af wr w.heap.size 57 #[.int .i64 x.aU,.int .i64 x.numOf,.string x.a1,.slice A m c]
 b6:af wr (w.heap.size+1) 57 #[.int .i64 0,.int .i64 0,.string ⟨#[]⟩,.slice none 0 0]
 b8:af wr (w.heap.size+2) 57 #[.int .i64 x.aU,.int .i64 x.numOf,.string ⟨#[]⟩,.slice I k az]
 own:wr.ownsRow (w.heap.size+3) 57 4 (.slice I k az) k xs
 aI:D.aI wr (Jh (w.heap.size+3) wr (.slice I k az)) ((x.args.take k).map fun y=>bb (bx l y)) xs
theorem yC.next{w wr aO:World}{x y:VE}{m c:Nat}{I cf:Kr}{az c3:Nat}{br:List Value}(h:yC w wr l x A m c k I az xs)(a4:x.args[k]?=some y)
  (he:Ext wr aN) (aU:(bb (bx l y)).rep aN (fresh wr aN) br) (S:aO.ownsRow (w.heap.size+3) 57 4 (.slice cf (k+1) c3) (k+1) (xs++br)) (aJ:aN.grownBy aO (Value.slice I k az).ownBlock)
  (O:(Value.slice cf (k+1) c3).ownBlock=(Value.slice I k az).ownBlock∨(Value.slice cf (k+1) c3).ownBlock=some (aN.heap.size+1)) (hX:aO.setCell ⟨w.heap.size+2,3,none⟩ (.slice cf (k+1) c3)=X) :
  yC w X l x A m c (k+1) cf c3 (xs++br):=by
 have aw:∀g,(Value.slice I k az).ownBlock=some g→w.heap.size+3≤g∧g<wr.heap.size:=fun g aJ=>h.own.lt g aJ;have d:=h.b8.lt;have e1:=he.size;have e2:=aJ.size;have bZ:Fr (fun b=>b=w.heap.size+2) aO X:=hX▸(Fr.refl (fun b=>b=w.heap.size+2) aO).setCell (.inl rfl) _;have a:∀b,b<aN.heap.size→b≠w.heap.size+2→some b≠(Value.slice I k az).ownBlock→X.heap[b]?=aN.heap[b]?:=fun b ae aC aT=>(bZ.block b ab aC).trans (aJ.block b ae aT);have a1:∀b,b<w.heap.size+3→some b≠(Value.slice I k az).ownBlock:=fun b O he=>by have:=aw b he.symm;omega
 have cd:∀b,b<wr.heap.size→b≠w.heap.size+2→some b≠(Value.slice I k az).ownBlock→X.heap[b]?=wr.heap[b]?:=fun b ae aC aT=>(a b ab aC aT).trans (he.block b ae fun h=>h);have co:X.heap.size=aO.heap.size:=by rw[←hX];simp
 refine⟨?_,?_,?_,?_,?_,?_⟩
 ·refine⟨?_,?_,?_,by have:=h.ext.size;omega,fun b O _=>?_⟩
  ·exact bZ.os.trans (aJ.os.trans (he.os.trans h.ext.os))
  ·exact bZ.tape.trans (aJ.tape.trans (he.tape.trans h.ext.tape))
  ·exact bZ.output.trans (aJ.output.trans (he.output.trans h.ext.output))
  ·have:=h.ext.size;exact(cd b ab ab (a1 b ab)).trans (h.ext.block b O fun h=>h)
 ·exact(cd _ ab ab (a1 _ ab)).trans h.b4
 ·exact(cd _ ab ab (a1 _ ab)).trans h.b6
 ·have cM:af aO (w.heap.size+2) 57 #[.int .i64 x.aU,.int .i64 x.numOf,.string ⟨#[]⟩,.slice I k az]:=(h.b8.ak he).grown aJ (a1 _ ab);rw[←hX];exact cM.aC 3 _
 ·refine⟨S.1,?_⟩;rcases S.2 with aC|⟨g,cap,cur,bD,j,aS,rest⟩
  ·exact .inl aC
  ·exact .inr ⟨g,cap,cur,bD,j,(bZ.block g (Array.getElem?_eq_some_iff.1 aS).1 ab).trans aS,rest⟩
 ·rw[List.take_add_one,a4,JX];refine D.cA ?_ ?_
  ·refine D.bK (fun b aY=>⟨aY.1,by have:=aY.2.1;omega,fun hc=>?_⟩) _ _ (D.bJ (fun b aY=>cd b aY.2.1 (aH aY.1) fun he=>aY.2.2 he.symm) _ _ h.aI);rcases O with O|O
   ·rw[O] at hc;exact aY.2.2 hc
   ·rw[O] at hc;injection hc with hc;have:=aY.2.1;omega
  ·simp only[Option.toList_some,JW,Kd];rw[D.bj];refine D.aF (fun b aY=>⟨by have:=aY.1;omega,by have:=aY.2;omega,fun hc=>?_⟩) _ _ (D.aN (fun b aY=>a b aY.2 (aH aY.1) fun he=>by have:=(aw b he.symm).2;have:=aY.1;omega) _ _ aU);rcases O with O|O
   ·rw[O] at hc;have:=(aw b hc).2;have:=aY.1;omega
   ·rw[O] at hc;injection hc with hc;have:=aY.2;omega
theorem vQ(l:List dz)(x:VE)(h:(∃op y,x=.un op y)∨∃op y z,x=.bin op y z):(bx l x).aU=x.aU∧(bx l x).numOf=x.numOf∧(bx l x).a1=⟨#[]⟩∧(bx l x).args=x.args.map (bx l):=by
 rcases h with⟨op,y,rfl⟩|⟨op,y,z,rfl⟩<;>exact⟨rfl,rfl,rfl,rfl⟩
theorem w7{w:World}{g:Nat}{r:Value}{cs:Array Value}(hs:cs.size=4)(aL:af V g 57 cs)(aF:Ext w V)(aJ:w.heap.size≤g)(hX:(((V.setCell ⟨g,0,none⟩ v0).setCell ⟨g,1,none⟩ v1).setCell ⟨g,2,none⟩ v2).setCell ⟨g,3,none⟩ r=X):
  af X g 57 #[v0,v1,v2,r]∧Ext w X∧Fr (fun b=>b=g) V X:=by
 subst hX;refine⟨?_,(((aF.setCell (.inr aJ) _).setCell (.inr aJ) _).setCell (.inr aJ) _).setCell (.inr aJ) _,((((Fr.refl (fun b=>b=g) V).setCell (.inl rfl) _).setCell (.inl rfl) _).setCell (.inl rfl) _).setCell (.inl rfl) _⟩;have:=(((aL.aC 0 v0).aC 1 v1).aC 2 v2).aC 3 r
 match cs,hs with
 | ⟨[c0,c1,c2,c3]⟩,_=>exact this
namespace AE
theorem zP(h:p:=by
 obtain⟨a0,ap,ak⟩:=bG.two;go_upto_region 7 with(fail);generalize hV:World.alloc _ _=V;have t:Ext W V:=hV▸Kn.alloc _;have hC:af V (w.heap.size+2) 57 #[.int .i64 x.aU,.int .i64 x.numOf,.string ⟨#[]⟩,.slice none 0 0]:=hV▸af.ct _ _ _ cA.symm;have HA:=ad (show yC w V l x A m c 0 none 0 [] from ⟨aF.trans t,bG.ak t,a1.ak t,hC,⟨by simp,.inl ⟨rfl,rfl⟩⟩,by simp only[List.take_zero,Kd,D.aI]⟩);clear hV t hC bG a1 aF cA a0 ap ak;go_wp2;go_loopw [9] (fun ba wr=>∃(k:Nat) (I:Kr) (az:Nat) (xs:List Value),k≤m∧ba=.int .i64 k∧yC w wr l x A m c k I az xs) (fun ba _=>m - (intOf ba).toNat)
 case atStart=>exact⟨0,none,0,[],ab,rfl,HA.o⟩
 case round=>
  obtain⟨k,I,az,xs,aj,rfl,bk⟩:=hrel;clear HA;have HA:=ad bk;obtain⟨a0,ap,ak⟩:=bk.b4.two;obtain⟨a6,am,aI⟩:=bk.b6.two;obtain⟨e0,a5,aZ⟩:=bk.b8.two;by_cases aw:k<m
  ·obtain⟨b,o,y,cs,rfl,O,a4,bJ,a3,Z⟩:=(bu.on (Fr.ext bk.ext)).gN cZ aw
   match cs,a3 with
   | [cj,cr,bm,aa],_=>
   have c0:=Z 0 cj rfl;have c1:=Z 1 cr rfl;have c2:=Z 2 bm rfl;have c3:=Z 3 aa rfl;simp only[J0] at c0;have aW:b<wr.heap.size:=O;obtain⟨B,bZ,eL,e,cu,bO⟩:=aV.1 bJ;simp only[List.cons.injEq,and_true] at e;obtain⟨rfl,rfl,rfl,rfl⟩:=e;obtain⟨bM,ac⟩:=aM a4 bJ;have bL:=ad (b9.o k y a4);have F:=ad (bK.on bk.ext);clear a4 bJ bO Z O bk a6 am aI;go_wp2;refine eE (fun _=>False) [(0,3),(1,0),(2,3),(3,3),(4,0),(5,3),(6,3),(7,0),(8,3),(9,1),(10,1),(11,2),(12,3),(13,2)] ?_;refine pf ?_;refine ph ?_
   iterate 2 refine pf ?_
   refine ph ?_
   iterate 2 refine pf ?_
   refine ph ?_;refine pf ?_;refine aK rfl (fun K hK=>?_);go_simp;refine(bL.o g st _ _ _ _ _ _ _ (F.on Kn.drew) (D.on ac.o (Fr.ext Kn.drew))).mono ?_;rintro e aN ⟨o1,n1,s1,ce,cQ,cL,rfl,cG,ar⟩;refine dW hK (ar) ?_;clear hK K;have aG:Ext wr aN:=Fr.aO ar;have G:(bb (bx l y)).rep aN (fresh wr aN) [.int .i64 o1,.int .i64 n1,.string s1,.slice ce cQ cL]:=cG;have au:=ai aG G;refine ru ?_;refine aq rfl (fun K hK=>?_);rw[if_pos (by rfl)];have cM:w.heap.size+3≤aN.heap.size:=by have:=HA.b8.lt;have:=aG.size;omega
   refine xx _ oU (.tmp 40) (.tmp 49) (by rfl) (w.heap.size+3) (.slice I k az) k xs _ (by rfl) (b5 HA.own (Fr.ext aG)) (by rfl) (by rfl) (by simp[Value.oneCell']) ab ab cM ?_;intro v2 aO ag an E;obtain⟨cf,bz,rfl,bw,_⟩:=bs ag;have i:af aO (w.heap.size+2) 57 _:=(HA.b8.ak aG).grown an (fun he=>by have:=HA.own.lt _ he.symm;omega);have bW:=aQ ag an E;clear ag an E cG G ar a0 ap ak e0 a5 aZ c0 c1 c2 c3 aW;obtain⟨e0,a5,aZ⟩:=i.two;refine eD hK ?_;clear hK K;refine pf ?_;refine aq rfl (fun K hK=>?_);go_simp;refine eD hK ?_;clear hK K;refine aA ?_;clear e0 a5 aZ;generalize hX:World.setCell aO _ _=X;have cD:=ad (HA.next bM.o au.1 au.2 bW.1 bW.2.1 bW.2.2 hX);clear hX i aG;go_wp2;go_roundw
   case rel=>exact⟨k+1,cf,bz,_,ab,by go_num,cD.o⟩
   case measure=>exact aB
  ·obtain rfl:m=k:=ab;clear bk;go_wp2;generalize hX:World.setCell _ _ _=X;obtain⟨bP,bB,bq⟩:=w7 rfl HA.b6 HA.ext (Nat.le_succ _) hX;obtain⟨bv,bd,be⟩:=bP.two;clear a0 ap ak a6 am aI e0 a5 aZ;refine Km (v:=.agg #[.int .i64 x.aU,.int .i64 x.numOf,.string ⟨#[]⟩,.slice I m az]) (by simp[results,Tryz.results134,go_sem,bv]) rfl ?_;refine⟨_,_,_,_,_,_,rfl,?_,bB⟩;obtain⟨ae,aC,aT,a9⟩:=b4.o;have S:=HA.own;obtain⟨_,_,bD,hle,_⟩:=bs S;injection bD with d5 u hv3;have L:=HA.aI;have aw:∀g,(Value.slice I m az).ownBlock=some g→w.heap.size+3≤g∧g<wr.heap.size:=fun g aJ=>S.lt g aJ;have bY:X.heap.size=wr.heap.size:=by rw[←hX];simp
   rw[←b8.o,List.take_length] at L;refine aV.2 ⟨I,m,az,by rw[ae,aC,aT],ab,?_⟩;rw[a9,List.map_map];have f:X.ownsRow (w.heap.size+3) 57 4 (.slice I m az) m xs:=by
    refine⟨S.1,?_⟩;rcases S.2 with aC|⟨g,cap,cur,bD,j,aS,rest⟩
    ·exact .inl aC
    ·exact .inr ⟨g,cap,cur,bD,j,(bq.block g (Array.getElem?_eq_some_iff.1 aS).1 ab).trans aS,rest⟩
   refine Sl.pP f (D.bK (fun b aY=>⟨by have:=aY.1;omega,by have:=aY.2.1;omega⟩) _ _ (D.bJ (fun b aY=>bq.block b aY.2.1 (aH aY.1)) _ _ L)) (by rw[JU];exact b8.o) (fun g _ ae aC=>⟨ab,aC⟩)
 ):p:=h
theorem g7(h:p:=by
 exact zO
 ):p:=h
theorem oO(h:p:=by
 have bN:m≤2:=by rw[←hs.1,JU];exact w0 x
 have ay:x.args.length=m:=by rw[←hs.1,JU]
 obtain⟨b8,bK,bu,b9⟩:=iF ay bR hs ao;have b4:=ad (vQ l x r);clear aU ao bR hs ay r;go_enter func134,ntmps134;exact g6
 ):p:=h
end AE
open AE in
theorem q3(l:List dz)(x:VE)(r:(∃op y,x=.un op y)∨∃op y z,x=.bin op y z)(cB:(x.aU == 2)=false)(ao:∀(k:Nat) (y:VE),x.args[k]?=some y→oI l y):oI l x:=by
 intro g st op n s A m c w bR aU;exact oN
def VE.leaf:VE→Prop
 | .un _ _=>False
 | .bin _ _ _=>False
 | _=>True
namespace AF
theorem zP(h:p:=by
 obtain⟨a2,bD,cr⟩:=ez aF bG a1;obtain⟨a0,ap,ak⟩:=bG.two;obtain⟨a6,am,aI⟩:=a1.two;clear aF bG a1
 cases x with
 | loc j=>exact hx.elim
 | ia j=>exact hx.elim
 | gy s=>
  obtain⟨v,aD,aj⟩:=hx;have d:=ad (show bx l (.gy s)=if v.kind=1 then .ia v.n else .loc v.n by unfold bx;simp only[aD]);simp only[VE.aU,VE.numOf,VE.a1] at *;go_wp2_with(fail);refine(mJ g l s v aD aj st W (bK.on a2.o)).mono ?_;rintro e aN ⟨rfl,ar⟩;have br:=ad (a2.trans ar);have i:=ad (cr.ak ar);clear ar a0 ap ak a6 am aI aD;obtain⟨a8,cO,bC⟩:=v;simp only[qE] at *;go_upto_region 3 with(fail);generalize hV:World.alloc _ _=V;have t:Ext aN V:=hV▸Kn.alloc _;have J:=ad (br.trans t);have u:=ad (i.ak t);have hC:af V aN.heap.size 153 #[.string a8,.int .i64 cO,.int .i64 bC]:=hV▸Ko;obtain⟨a0,ap,ak⟩:=hC.two;obtain⟨a6,am,aI⟩:=u.two;clear hV t hC;rcases aj with rfl|rfl
  ·go_wp2;generalize hX:World.setCell _ _ _=X;obtain⟨bP,bB,_⟩:=w7 rfl u.o J.o (Nat.le_succ _) hX;obtain⟨e0,a5,aZ⟩:=bP.two;clear a0 ap ak a6 am aI;refine Km (v:=.agg #[.int .i64 19,.int .i64 bC,.string ⟨#[]⟩,.slice none 0 0]) (by simp[results,Tryz.results134,go_sem,e0]) rfl ?_;refine⟨_,_,_,_,_,_,rfl,?_,bB⟩;rw[show bx l (.gy s)=.ia bC by simpa using d.o];exact aV.2 ⟨none,0,0,rfl,JQ _,Sl.bG _⟩
  ·go_wp2;generalize hX:World.setCell _ _ _=X;obtain⟨bP,bB,_⟩:=w7 rfl u.o J.o (Nat.le_succ _) hX;obtain⟨e0,a5,aZ⟩:=bP.two;clear a0 ap ak a6 am aI;refine Km (v:=.agg #[.int .i64 18,.int .i64 bC,.string ⟨#[]⟩,.slice none 0 0]) (by simp[results,Tryz.results134,go_sem,e0]) rfl ?_;refine⟨_,_,_,_,_,_,rfl,?_,bB⟩;rw[show bx l (.gy s)=.loc bC by simpa using d.o]
   exact aV.2 ⟨none,0,0,rfl,JQ _,Sl.bG _⟩
 | num n=>
  obtain rfl:0=m:=ay;simp only[VE.aU,VE.numOf,VE.a1] at *;go_upto_region 7 with(fail);generalize hV:World.alloc _ _=V;have t:Ext W V:=hV▸Kn.alloc _;have J:=ad (a2.trans t);have u:=ad (cr.ak t);have hC:af V (w.heap.size+2) 57 #[.int .i64 1,.int .i64 n,.string ⟨#[]⟩,.slice none 0 0]:=hV▸af.ct _ _ _ cA.symm;have f:=bD.ak t;clear a0 ap ak a6 am aI;obtain⟨c0,cC,bi⟩:=f.two;obtain⟨a0,ap,ak⟩:=hC.two;obtain⟨a6,am,aI⟩:=u.two;clear hV t hC f;go_wp2;refine wp_loop_rounds 1 ?_;rw[rounds_succ];go_wp2;generalize hX:World.setCell _ _ _=X;obtain⟨bP,bB,_⟩:=w7 rfl u.o J.o (Nat.le_succ _) hX;obtain⟨e0,a5,aZ⟩:=bP.two;clear a0 ap ak a6 am aI;refine Km (v:=.agg #[.int .i64 1,.int .i64 n,.string ⟨#[]⟩,.slice none 0 0]) (by simp[results,Tryz.results134,go_sem,e0]) rfl ?_
  exact⟨_,_,_,_,_,_,rfl,aV.2 ⟨none,0,0,rfl,JQ _,Sl.bG _⟩,bB⟩
 | un op y=>exact ca.elim
 | bin op y z=>exact ca.elim
 ):p:=h
theorem g7(h:p:=by
 exact zO
 ):p:=h
theorem oO(h:p:=by
 have bN:m≤2:=by rw[←hs.1,JU];exact w0 x
 have ay:x.args.length=m:=by rw[←hs.1,JU]
 obtain⟨bK,bu,b9⟩:=ez bR hs ao;clear aU ao bR hs;go_enter func134,ntmps134;exact g6
 ):p:=h
end AF
open AF in
theorem q4(l:List dz)(x:VE)(hx:fC l x)(ca:x.leaf)(ao:∀(k:Nat) (y:VE),x.args[k]?=some y→oI l y):oI l x:=by
 intro g st op n s A m c w bR aU;exact oN
theorem kP(l:List dz)(x:VE)(hx:fC l x)(ao:∀(k:Nat) (y:VE),x.args[k]?=some y→oI l y):oI l x:=by
 cases x with
 | un op y=>exact q3 l _ (.inl ⟨_,_,rfl⟩) (by rcases hx.1 with h|h<;>(show (op == 2)=false;rw[h];rfl)) ao
 | bin op y z=>exact q3 l _ (.inr ⟨_,_,_,rfl⟩) (by have:=hx.1.1;show (op == 2)=false;simp;omega) ao
 | num n=>exact q4 l _ hx trivial ao
 | gy n=>exact q4 l _ hx trivial ao
 | loc j=>exact hx.elim
 | ia j=>exact hx.elim
theorem fP(l:List dz):∀(x:VE),fC l x→oI l x
 | .num n,h=>kP l _ h fun k y a4=>by simp[VE.args] at a4
 | .gy n,h=>kP l _ h fun k y a4=>by simp[VE.args] at a4
 | .loc n,h=>h.elim
 | .ia n,h=>h.elim
 | .un op y,h=>kP l _ h fun k z bi=>by
  match k,bi with
  | 0,bi=>simp[VE.args] at bi;subst bi;exact fP l y h.2
 | .bin op x y,h=>kP l _ h fun k z bi=>by
  match k,bi with
  | 0,bi=>simp[VE.args] at bi;subst bi;exact fP l x h.2.1
  | 1,bi=>simp[VE.args] at bi;subst bi;exact fP l y h.2.2
structure xz(w:World)(g:Nat)(M:List bA):Prop where
 lt:g<w.heap.size
 ex:∃A n c,n≤1000000∧w.cell? ⟨g,1,none⟩=some (.slice A n c)∧Sl w (au w) A n (M.map dZ)
theorem xz.on{w ac:World}{g:Nat}{M:List bA}(h:xz w g M)(O:Ext w ac):xz ac g M:=by
 exact Cb
def p2(M:List bA)(l:List dz)(r:eF):Prop:=∃v,dk l r.name=some v∧
 ((v.kind=5∧r.idx=none)∨(v.kind=2∧∃m,0≤v.n∧M[v.n.toNat]?=some m∧(0<m.size→∃e,r.idx=some e∧fC l e)∧(¬0<m.size→r.idx=none)))
theorem ej{w:World}{p:bC}:(de p).rep w P cs↔∃A n c,cs=[.bool p.param,.int .i64 p.index,.slice A n c]∧n≤c∧Sl w P A n (p.at_.toList.map bb):=by
 unfold de;rw[bu,eX];constructor
 ·rintro⟨y,rfl,h⟩;rw[aZ] at h;obtain⟨bm,rfl,h⟩:=h;rw[aD] at h;obtain⟨A,n,c,aa,rfl,hc,hs,aT⟩:=h;exact wQ
 ·rintro⟨A,n,c,rfl,hc,hs⟩;exact⟨_,rfl,aZ.2 ⟨_,rfl,aD.2 ⟨A,n,c,[],rfl,hc,hs,aJ.2 rfl⟩⟩⟩
theorem pr{w:World}{g:Nat}{c0 c1 c2:Value}(aL:af V g t #[c0,c1,c2])(aF:Ext w V)(aJ:w.heap.size≤g)(hX:((V.setCell ⟨g,0,none⟩ v0).setCell ⟨g,1,none⟩ v1).setCell ⟨g,2,none⟩ v2=X):
  af X g t #[v0,v1,v2]∧Ext w X∧Fr (fun b=>b=g) V X:=by
 subst hX;exact⟨((aL.aC 0 v0).aC 1 v1).aC 2 v2,((aF.setCell (.inr aJ) _).setCell (.inr aJ) _).setCell (.inr aJ) _,(((Fr.refl (fun b=>b=g) V).setCell (.inl rfl) _).setCell (.inl rfl) _).setCell (.inl rfl) _⟩
def F7(w:World)(p:bC)(e:Ending)(ac:World):Prop:=
 ∃(b:Bool) (i:Int) (A:Kr) (n c:Nat),e=.returned (.agg #[.bool b,.int .i64 i,.slice A n c])∧(de p).rep ac (fresh w ac) [.bool b,.int .i64 i,.slice A n c]∧Ext w ac
def uG:Prop:=∀(g:Nat) (l:List dz) (M:List bA) (r:eF),p2 M l r→∀(st:Int) (s:ByteArray) (A:Kr) (n c:Nat) (w:World),s4 w g l→xz w g M→(km r).rep w (au w) [.string s,.slice A n c]→
  Calls prog 137 #[.pointer (some ⟨g,0,none⟩),.agg #[.string s,.slice A n c],.int .i64 st] w (F7 w (lT l r))
theorem C5{w ac:World}{B e z:Nat}{v:Value}(h:w.ownsRow B e z v n xs)(aj:∀b,B≤b→b<w.heap.size→ac.heap[b]?=w.heap[b]?):ac.ownsRow B e z v n xs:=by
 refine⟨h.1,?_⟩;rcases h.2 with aC|⟨ai,cap,cur,bD,j,aS,rest⟩
 ·exact .inl aC
 ·exact .inr ⟨ai,cap,cur,bD,j,(aj ai j (Array.getElem?_eq_some_iff.1 aS).1).trans aS,rest⟩
namespace Bw
theorem jD(h:p:=by
 clear bU ay aB;generalize bE:World.setCell aO _ _=bT;have b0:Fr (fun b=>b=X.heap.size) aO bT:=bE▸(Fr.refl (fun b=>b=X.heap.size) aO).setCell (.inl rfl) _;have b1:af bT X.heap.size 59 #[.bool false,.int .i64 mi,.slice cf 1 bz]:=bE▸a5.aC 2 _;have U:=L.on b0 ab;have a9:=H.on b0 ab;have j:=ad b0;clear bE a5 L H b0;obtain⟨a0,ap,ak⟩:=a9.two;obtain⟨bU,ay,aB⟩:=b1.two;obtain⟨d6,dp,dq⟩:=U.two;go_wp2;rw[rounds_succ];go_wp2;generalize b6:World.setCell _ _ _=Y;obtain⟨ag,aG,aS⟩:=bW.o;have aX:=aS.size;have aP:=aG.size;have bc:=j.size;have cF:Ext w bT:=⟨j.os.trans ((bl.trans (aG.trans aS)).os),j.tape.trans ((bl.trans (aG.trans aS)).tape),j.output.trans ((bl.trans (aG.trans aS)).output),J7 (bl.trans (aG.trans aS)).size bc,
  fun k aj _=>(j.block k (JR aj (bl.trans (aG.trans aS)).size) ab).trans ((bl.trans (aG.trans aS)).block k aj fun h=>h)⟩
 obtain⟨bt,bA,bk⟩:=pr U cF (Nat.le_succ _) b6;obtain⟨bv,bd,be⟩:=bt.two;refine Km (v:=.agg #[.bool false,.int .i64 mi,.slice cf 1 bz]) (by simp[results,Tryz.results137,go_sem,bv]) rfl ?_;refine⟨_,_,_,_,_,rfl,?_,bA⟩;rw[ba.o];refine ej.2 ⟨cf,1,bz,rfl,ab,?_⟩;simp only[hx,Option.map_some,Option.toList_some,JW,Kd];have cv:=bk.size;have fE:=cP.lt;have cx:∀b,dn.heap.size≤b→b<aO.heap.size→Y.heap[b]?=aO.heap[b]?:=fun b ae aC=>(bk.block b ab ab).trans (j.block b aC ab);have f:=C5 ag cx;simp only[J8,Kg] at f;refine Sl.pP f ?_ rfl (fun ai _ ae aC=>⟨ab,aC⟩);rw[D.bj];exact D.aF (fun b aY=>⟨by have:=aY.1;omega,by have:=aY.2;omega⟩) _ _ (D.aN (fun b aY=>(cx b aY.1 (aH aY.2)).trans (aS.block b aY.2 fun h=>h)) _ _ au.o)
 ):p:=h
theorem zR(h:p:=by
 refine c9 rfl (by rfl) ?_
 try simp only[PU]
 refine c9 rfl (by rfl) ?_
 try simp only[PU]
 refine hW rfl (by rfl) ?_
 try simp only[PU]
 refine c9 rfl (by rfl) ?_
 try simp only[PU]
 iterate 2 refine pf ?_
 refine aA ?_;go_wp2;refine wp_loop_rounds 1 ?_;rw[rounds_succ];go_wp2;generalize b6:World.setCell _ _ _=Y;obtain⟨bt,bA,_⟩:=pr a7.o bl.o (Nat.le_succ _) b6;obtain⟨bv,bd,be⟩:=bt.two;clear b6;refine Km (v:=.agg #[.bool true,.int .i64 bC,.slice none 0 0]) (by simp[results,Tryz.results137,go_sem,bv]) rfl ?_;exact FF
 ):p:=h
theorem gq(h:p:=by
 refine tf ?_;refine cw ?_;generalize hX:World.setCell _ _ _=X;obtain⟨bh,bo,_⟩:=pr bV bf ah hX;have J:=ad (a2.trans bo);have ac:=ad (bD.ak bo);have u:=ad (cr.ak bo);clear hX a6 am aI bV bf ah;obtain⟨a6,am,aI⟩:=bh.two;go_upto_region 6 with(fail);generalize hV:World.alloc _ _=dn;have t:Ext X dn:=hV▸Kn.alloc _;have cK:=bh.ak t;have a3:af dn X.heap.size 59 #[.bool (v.kind == 5),.int .i64 v.n,.slice none 0 0]:=hV▸Ko;have bl:=ad (J.trans t);have N:=ac.ak t;have a7:=ad (u.ak t);have co:w.heap.size+2≤X.heap.size:=u.lt;obtain⟨bM,cP⟩:=aM N a3;clear hV t bh a6 am aI;obtain⟨a6,am,aI⟩:=cK.two;obtain⟨a0,ap,ak⟩:=N.two;obtain⟨bU,ay,aB⟩:=a3.two;obtain⟨d6,dp,dq⟩:=a7.two;have b2:w.heap.size+2≤dn.heap.size:=ab;clear cK N a3;obtain⟨a8,cO,bC⟩:=v;simp only at *;rcases cm.o with⟨cl,al⟩|⟨aC,m,h0,hm,cY,aT⟩
 ·subst cl;have bQ:n=0:=by have:=bu.1;rw[al] at this;exact this.symm
  subst bQ;go_wp2;refine eE (fun _=>False) [(0,3),(1,0),(2,3),(3,3),(4,3),(5,3),(6,3),(7,3),(8,0),(9,3),(10,0),(11,3),(12,3),(13,0),(14,3),(15,3),(16,3)] ?_;refine pf ?_;refine ph ?_
  iterate 2 refine pf ?_
  refine c9 rfl (by rfl) ?_;exact zQ
 ·subst aC;obtain⟨mi,rfl⟩:=JV h0;rw[Kb] at hm;obtain⟨_,MA,mn,mc,fJ,b7,F⟩:=dv.on bl.o;have ct:mi<mn:=by have:=(List.getElem?_eq_some_iff.1 hm).1;have:=F.1;rw[JU] at this;omega
  obtain⟨hh,bB,bn,cs,rfl,bN,S,bH,bF,aR⟩:=F.gN (z:=3) (fun _=>rfl) ct;rw[hm] at S;injection S with S;subst S;obtain rfl:=eR.1 bH;have f2:=aR 2 _ rfl;have bm:hh<dn.heap.size:=bN;have an:g<dn.heap.size:=JR bK.lt bl.size;clear F bF aR bH bN;by_cases bi:0<m.size
  ·have bP:decide (m.size > 0)=true:=by simpa using bi
   obtain⟨x,hx,av⟩:=cY bi;have aw:=bu.on (Fr.ext bl.o);rw[hx] at aw;obtain rfl:1=n:=aw.1;obtain⟨b,o,br,Z,ax,E,rfl,O,bp,e0,e1,e2,e3⟩:=Sl.C2 aw (cZ x);obtain⟨B,bZ,eL,e,cu,bO⟩:=aV.1 bp;simp only[List.cons.injEq,and_true] at e;obtain⟨rfl,rfl,rfl,rfl⟩:=e;have aW:b<dn.heap.size:=O;have T:=ad bp;have bL:=ad (fP l x av);have bY:=ad (bK.on bl.o);clear bp bO O aw cY aT;go_wp2;refine eE (fun _=>False) [(0,3),(1,0),(2,3),(3,3),(4,3),(5,3),(6,3),(7,3),(8,0),(9,3),(10,0),(11,3),(12,3),(13,0),(14,3),(15,3),(16,3)] ?_;refine pf ?_;refine ph ?_
   iterate 6 refine pf ?_
   refine ph ?_;refine pf ?_;refine ph ?_
   iterate 2 refine pf ?_
   refine ph ?_
   iterate 3 refine pf ?_
   refine aA ?_;go_wp2;refine wp_loop_rounds 2 ?_;rw[rounds_succ];go_wp2;refine eE (fun _=>False) [(0,3),(1,0),(2,3),(3,3),(4,0),(5,3),(6,3),(7,0),(8,3),(9,1),(10,1),(11,2),(12,3),(13,2)] ?_;refine pf ?_;refine bI (v:=?_) rfl (by rfl) (fun V hV=>?_) ?_;rotate_left
   ·obtain⟨hVc,hVf⟩:=Fr.jb hV
    (go_simp<;>with_reducible rfl)
   try simp only[PU]
   iterate 2 refine pf ?_
   refine bI (v:=?_) rfl (by rfl) (fun V hV=>?_) ?_;rotate_left
   ·obtain⟨hVc,hVf⟩:=Fr.jb hV
    (go_simp<;>with_reducible rfl)
   try simp only[PU]
   iterate 2 refine pf ?_
   refine bI (v:=?_) rfl (by rfl) (fun V hV=>?_) ?_;rotate_left
   ·obtain⟨hVc,hVf⟩:=Fr.jb hV
    (go_simp<;>with_reducible rfl)
   try simp only[PU]
   refine pf ?_;refine aK rfl (fun K hK=>?_);go_simp;refine(bL.o g st _ _ _ _ _ _ _ (bY.on Kn.drew.drew) (D.on T.o (Fr.ext Kn.drew.drew))).mono ?_;rintro e aN ⟨o1,n1,s1,ce,cQ,cL,rfl,cG,ar⟩;refine dW hK (ar) ?_;clear hK K;have aG:Ext dn aN:=Fr.aO (Fr.aO ar);have G:(bb (bx l x)).rep aN (fresh dn aN) [.int .i64 o1,.int .i64 n1,.string s1,.slice ce cQ cL]:=cG;have au:=ad G;refine ru ?_;refine aq rfl (fun K hK=>?_);rw[if_pos (by rfl)];have aP:=aG.size;refine xx _ oU (.tmp 79) (.tmp 88) (by rfl) dn.heap.size (.slice none 0 0) 0 [] _ (by rfl) ⟨by simp,.inl ⟨rfl,rfl⟩⟩ (by rfl) (by rfl) (by simp[Value.oneCell']) ab ab aP ?_;intro v2 aO ag aE _;obtain⟨cf,bz,rfl,bw,_⟩:=bs ag;have aS:Ext aN aO:=Kn.grown aE (by simp[Value.ownBlock]);have a5:=(cP.ak aG).ak aS;have L:=(a7.ak aG).ak aS;have H:=(bM.ak aG).ak aS;have bW:=aQ ag aG aS;clear ag aE cG G ar aG aS a0 ap ak a6 am aI bU ay aB d6 dp dq e0 e1 e2 e3 aW f2 bm an b7;obtain⟨bU,ay,aB⟩:=a5.two;exact lB
  ·have bP:decide (m.size > 0)=false:=by simp;omega
   have al:=aT ab;have bQ:n=0:=by have:=bu.1;rw[al] at this;exact this.symm
   subst bQ;clear cY aT;go_wp2;refine eE (fun _=>False) [(0,3),(1,0),(2,3),(3,3),(4,3),(5,3),(6,3),(7,3),(8,0),(9,3),(10,0),(11,3),(12,3),(13,0),(14,3),(15,3),(16,3)] ?_;refine pf ?_;refine ph ?_
   iterate 6 refine pf ?_
   refine ph ?_;refine pf ?_;refine ph ?_
   iterate 2 refine pf ?_
   refine ph ?_
   iterate 3 refine pf ?_
   refine aA ?_;go_wp2;refine wp_loop_rounds 1 ?_;rw[rounds_succ];go_wp2;generalize b6:World.setCell _ _ _=Y;obtain⟨bt,bA,_⟩:=pr a7.o bl.o (Nat.le_succ _) b6;obtain⟨bv,bd,be⟩:=bt.two;clear b6;refine Km (v:=.agg #[.bool false,.int .i64 mi,.slice none 0 0]) (by simp[results,Tryz.results137,go_sem,bv]) rfl ?_;exact FF
 ):p:=h
theorem uW(h:p:=by
 have bf:Ext W V:=hV▸(Fr.aO ar).alloc _;exact Cd
 ):p:=h
theorem zJ(h:p:=by
 refine k3 (P:=?P1) (ops:=?o1) (Q:=?q1) (R:=?r1) (tails:=?t1) (rest:=.pick [11] (fun _=>.free 12 (.stop))) (aa:=?aa) (C:=fun db V=>Ext W V∧af V db 153 #[.string ⟨#[]⟩,.int .i64 0,.int .i64 0]∧W.heap.size≤db) (fun key=>?main) ?key
 case main=>
  refine bq ?_ ?_
  ·
   refine bS rfl (fun K hK=>?_) rfl;go_simp;refine(dM bj ln lc l r.name W.drew (cd.on (Fr.ext Kn.drew)) dl).mono ?_;rintro e aN ⟨rfl,ar⟩;rw[bX.o];simp only[iK,qE];exact uV
  ·
   refine eZ ?_;refine ao ?_;refine bS rfl (fun K hK=>?_) rfl;go_simp;generalize hV:World.alloc _ _=V;have aL:af V W.heap.size 153 #[.string ⟨#[]⟩,.int .i64 0,.int .i64 0]:=hV▸Ko;have bf:Ext W V:=hV▸Kn.alloc _;clear hV;refine(dM bj ln lc l r.name V.drew (cd.on (Fr.ext bf.drew)) dl).mono ?_;rintro e aN ⟨rfl,ar⟩;rw[bX.o];simp only[iK,qE];refine eD hK ?_;clear hK K
   iterate 3 refine tf ?_
   have b3:=aL.ak (Fr.aO ar);have aG:=bf.trans (Fr.aO ar);clear aL bf ar;exact key W.heap.size aN ⟨aG,b3,JQ _⟩
 case key=>
  rintro db V ⟨bf,bV,ah⟩;have cA:=cr.lt;have a4:=bD.lt;obtain⟨a6,am,aI⟩:=bV.two;clear a0 ap ak ca;exact g8
 ):p:=h
end Bw
open Bw in
theorem EE:uG:=by
 intro g l M r b9 st s A n c w bR hM aU;obtain⟨I,aZ,az,e,bJ,hs⟩:=jl.1 aU;simp only[List.cons.injEq,Value.string.injEq,Value.slice.injEq,and_true] at e;obtain⟨rfl,rfl,rfl,rfl⟩:=e;obtain⟨v,aD,aj⟩:=b9;have cm:=ad aj;have ba:=ad (show lT l r=⟨v.kind == 5,v.n,r.idx.map (bx l)⟩ by unfold lT;simp only[aD]);obtain⟨bX,bK,dv,bu⟩:=iF aD bR hM hs;clear aU hs bR hM aj aD;go_enter func137,ntmps137;go_wp2;generalize bg:World.alloc _ _=W;have aF:Ext w W:=bg▸(Kn.alloc _).alloc _;have bG:af W w.heap.size 189 #[.string r.name,.slice A n c]:=bg▸(Ko).alloc _;have a1:af W (w.heap.size+1) 59 #[.bool false,.int .i64 0,.slice none 0 0]:=bg▸af.ct _ _ _ (by simp);clear bg;obtain⟨a2,bD,cr⟩:=ez aF bG a1;obtain⟨aJ,bj,ln,lc,dl,ca,y⟩:=bK.on aF;have cd:=ad y;obtain⟨a0,ap,ak⟩:=bG.two;clear aF bG a1 y;exact zI
end Go.Proofs.YtbkhhfajcgkpgaaGreat
