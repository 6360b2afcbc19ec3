/- Part 15 of the proof. No condition of its own. -/
import Derived.Test.YtglbpimocmhojaaGreatQ09
namespace Go.Proofs.YtglbpimocmhojaaGreat
open Go.RowKit Go.Proofs.Tryz
set_option maxRecDepth 1000000
set_option maxHeartbeats 25600000
set_option linter.unusedVariables false
variable{s:ByteArray}{d:D}{cs:List Value}{c:List az}{l:List dL}{k:Nat}{P:Nat->Prop}{A:Lp}{p:Prop}{t:TypeId}{v0 v1 v2:Value}{V X aS:World}{e:dL}
theorem gP{w:World}{l:List D}:D.aQ w P (d::l) cs↔∃x y,cs=x++y/\d.rep w P x/\D.aQ w P l y:=by simp only[D.aQ]
theorem jw{w:World}{r:eO}:(kx r).rep w P cs↔∃A n c,cs=[.string r.name,.slice A n c]/\n<=c/\Sl w P A n (r.idx.toList.map bk):=by
 unfold kx;rw[bI,cp];constructor
 .rintro⟨y,rfl,h⟩;rw[aN] at h;obtain⟨A,n,c,bv,rfl,hc,hs,aU⟩:=h;exact r3
 .rintro⟨A,n,c,rfl,hc,hs⟩;exact uW
def bY(e:dL):D:=.st [.s e.name,.i e.kind,.i e.n]
theorem x9(e:dL):(bY e).sz=3:=rfl
theorem iy{w:World}:(bY e).rep w P cs↔cs=[.string e.name,.int .i64 e.kind,.int .i64 e.n]:=by
 unfold bY;rw[bI,cp];constructor
 .rintro⟨y,rfl,h⟩;rw[bm] at h;exact zp
 .rintro rfl;exact⟨_,rfl,bm.2 ⟨_,rfl,bm.2 ⟨_,rfl,aP.2 rfl⟩⟩⟩
theorem mv(x:az):(ef x).sz=12:=by
 have ac:(oj x.expr).sz=4:=by
  cases x.expr with
  | none=>rfl
  | some x=>exact c7 x
 unfold ef di;simp only[D.sz,D.yF,ac]
def Ms(g:Nat)(cv sv:Value):Nat->Prop:=λb=>b=g\/cv.ownBlock=some b\/sv.ownBlock=some b
structure Mv(g:Nat)(cv sv:Value)(w:World)(a f:Value)(ab:World):Prop where
 fr:Fr (Ms g cv sv) w ab
 own:∀b,b<w.heap.size->Ms g a f b->Ms g cv sv b
section
variable {g:Nat} {cv sv a f i m:Value} {w ab aT:World}
theorem Mv.refl(g:Nat)(cv sv:Value)(w:World):Mv g cv sv w cv sv w:=⟨Ll,λ_ _ h=>h⟩
theorem Mv.trans(h:Mv g cv sv w a f ab)(k:Mv g a f ab i m aT):Mv g cv sv w i m aT:=by
 refine⟨⟨k.fr.os.trans h.fr.os,k.fr.tape.trans h.fr.tape,k.fr.output.trans h.fr.output,KU h.fr.size k.fr.size,λb O hn=>?_⟩,λb O hm=>?_⟩
 .exact(k.fr.block b (KE O h.fr.size) λhm=>hn (h.own b O hm)).trans (h.fr.block b O hn)
 .exact h.own b O (k.own b (KE O h.fr.size) hm)
theorem Mv.g8(h:Ext w ab):Mv g cv sv w cv sv ab:=⟨h.mono λ_ h=>h.elim,λ_ _ h=>h⟩
theorem Mv.Iy(h:Fr (Ms g cv sv) w ab):Mv g cv sv w cv sv ab:=⟨h,λ_ _ h=>h⟩
theorem Mv.Iz(h:Mv g cv sv w a f ab):∀b,off (Ms g cv sv) w b->off (Ms g a f) ab b:=
 λb O=>⟨KE O.1 h.fr.size,λhm=>O.2 (h.own b O.1 hm)⟩
theorem D.cO(h:d.rep w (off (Ms g cv sv) w) cs)(O:Mv g cv sv w a f ab):d.rep ab (off (Ms g a f) ab) cs:=
 D.aL O.Iz _ _ (D.aS (λb ak=>O.fr.block b ak.1 ak.2) _ _ h)
theorem Sl.cO{n:Nat}{l:List D}(h:Sl w (off (Ms g cv sv) w) A n l)(O:Mv g cv sv w a f ab):Sl ab (off (Ms g a f) ab) A n l:=
 (h.ak (λb ak=>O.fr.block b ak.1 ak.2)).mono O.Iz
end
theorem rK{w:World}{P:Nat->Prop}(t:Int):∀(code:List az) (xs:List Value) (b:Nat),D.aQ w P (code.map ef) xs->b<code.length->D.aQ w P ((fX code b t).map ef) (xs.set (b*12+1) (.int .i64 t))
 | [],xs,b,h,O=>by simp at O
 | x::code,xs,0,h,O=>by
  rw[KJ] at h;obtain⟨j,d,rfl,hx,bb⟩:=gP.1 h;have hl:=(D.k5 _ _ hx).trans (mv x);have e:fX (x::code) 0 t={x with target:=t}::code:=rfl;rw[e,KJ,List.set_append_left _ _ ad];refine gP.2 ⟨_,_,rfl,?_,bb⟩;unfold ef at hx ⊢;rw[bI,bm] at hx ⊢;obtain⟨y,rfl,hx⟩:=hx;rw[bm] at hx;obtain⟨cd,rfl,hx⟩:=hx
  exact⟨_,rfl,bm.2 ⟨_,rfl,hx⟩⟩
 | x::code,xs,b+1,h,O=>by
  rw[KJ] at h;obtain⟨j,d,rfl,hx,bb⟩:=gP.1 h;have hl:=(D.k5 _ _ hx).trans (mv x);have ao:=rK t code d b bb (by simpa using O);have e:fX (x::code) (b+1) t=x::fX code b t:=rfl;rw[e,KJ,List.set_append_right _ _ ad,hl,show (b+1)*12+1 - 12=b*12+1 by omega];exact gP.2 ⟨_,_,rfl,hx,ao⟩
theorem cu(code:List az)(b:Nat)(t:Int):(fX code b t).length=code.length:=by unfold fX;rw[List.length_modify]
def kG(x:az):Prop:=(x.op=2\/x.op=3)\/(x.ints=[]/\x.places=[])
def Es(u:ay):Prop:=∀p∈u.procs,∀x∈p.code,kG x
theorem eG{y:az}(h:∀x∈c,kG x)(bb:kG y):∀x∈c++[y],kG x:=λx hx=>by
 rcases KM.1 hx with hx|hx
 .exact h x hx
 .rw[Lf.1 hx];exact bb
theorem j3{b:Nat}{t:Int}(h:∀x∈c,kG x):∀x∈fX c b t,kG x:=λx hx=>by
 rcases pV hx with hx|⟨y,bb,rfl⟩
 .exact h x hx
 .exact h y (KG bb)
theorem dv:∀(b:an) (l:List dL) (n:Int) (c:List az),(∀x∈c,kG x)->∀x∈(dH b l n c).1,kG x
 | .nil,_,_,c,h=>h
 | .set true s e rest,l,n,c,h=>dv rest _ _ _ (eG h (.inr ⟨rfl,rfl⟩))
 | .set false s e rest,l,n,c,h=>dv rest _ _ _ (eG h (.inr ⟨rfl,rfl⟩))
 | .call g s a1 rest,l,n,c,h=>dv rest _ _ _ (eG h (.inl (by cases g<;>simp[lr])))
 | .lock u r rest,l,n,c,h=>dv rest _ _ _ (eG h (.inr ⟨rfl,rfl⟩))
 | .ite e th el rest,l,n,c,h=>by
  have ac:=dv th l n _ (eG (y:=kk (bJ l e) 0) h (.inr ⟨rfl,rfl⟩));simp only[dH];refine dv rest _ _ _ ?_;split
  .exact j3 ac
  .exact j3 (dv el l _ _ (j3 (eG ac (.inr ⟨rfl,rfl⟩))))
 | .gv e th rest,l,n,c,h=>by
  have ac:=dv th l n _ (eG (y:=kk (bJ l e) 0) h (.inr ⟨rfl,rfl⟩))
  exact dv rest _ _ _ (j3 (eG ac (.inr ⟨rfl,rfl⟩)))
 | .ret rest,l,n,c,h=>dv rest _ _ _ (eG h (.inr ⟨rfl,rfl⟩))
theorem xA(p:bK):Es (gj p):=λq bv=>by
 simp only[gj,Lc] at bv;obtain⟨f,_,rfl⟩:=bv;exact eG (dv _ _ _ _ (by simp)) (.inr ⟨rfl,rfl⟩)
structure tq(u:ay):Prop where
 ok:cZ u
 sh:Es u
theorem tq.Ih{u:ay}{f:al}(h:tq u)(hF:cc u f):∃cq x,u.procs[f.proc.toNat]?=some cq/\cq.code[f.pc.toNat]?=some x/\f.proc.toNat<u.procs.length/\f.pc.toNat<cq.code.length/\0<=f.proc/\0<=f.pc/\(∃len:Nat,cq.code.length=len+1/\h1 (bx u) cq.locals cq.au len x)/\x.ints.length<=200/\x.places.length<=200/\(x.op≠8->f.pc+1<cq.code.length)/\qh (bx u) cq:=by
 obtain⟨cq,x,hp,aZ,hx,len,hl,an,hn⟩:=pP h.ok hF;have ac:=(List.getElem?_eq_some_iff.1 hp).1;have au:=(List.getElem?_eq_some_iff.1 hx).1;have hlen:x.ints.length<=200/\x.places.length<=200:=by
  rcases h.sh cq (KG hp) x (KG hx) with aU|⟨aU,bE⟩
  .rcases an with⟨bE,_⟩|⟨_,_,sg,_,hs,cF,aY,_⟩|⟨bE,_⟩|⟨bE,_⟩|⟨bE,_⟩|⟨bE,_⟩
   .omega
   .simp only[bx,List.getElem?_map] at hs
    cases bv:u.procs[x.target.toNat]? with
    | none=>rw[bv] at hs;cases hs
    | some r=>
     rw[bv] at hs;simp only[Option.map_some,Lg] at hs;have a5:=h.ok.procs r (KG bv);have:=a5.ints;have:=a5.au;subst hs;simp only at cF aY;omega
   .omega
   .omega
   .omega
   .omega
  .rw[aU,bE];simp
 exact⟨cq,x,hp,hx,ac,au,hF.proc,hF.pc,⟨len,hl,an⟩,hlen.1,hlen.2,hn,aZ⟩
theorem xU{P:Program}(S:World){o:Oper}{a:Act}{K:Act->World->Prop}{Q:Exit->Act->World->Prop}{e:TypeId}{z:Value}{size bytes:Nat}(bw:ch P t e z size bytes)(s x:Operand)
  (bn:o.op=.call {callee:=.builtin .append,args:=#[s,x],argTypes:=#[t,t]})
  (base:Nat) (v:Value) (n:Nat) (xs:List Value) (cs:Array Value) (hs:a.eval s=v) (aB:S.ownsRow base e size v n xs)
  (hx:a.eval x=.slice (some ⟨S.heap.size,0,none⟩) 1 1) (T:cs.size=size) (ac:∀u∈cs.toList,u.oneCell'=true)
  (r:(n+1)*bytes<=140737488355328) (y:n+1<=140737488355328) (C:base<=S.heap.size)
  (h:∀G ab,ab.ownsRow base e size G (n+1) (xs++cs.toList)->S.grownBy ab v.ownBlock->(G.ownBlock=v.ownBlock\/G.ownBlock=some (S.heap.size+1))->K (a.put o.dst G) ab):o.wp P a (S.alloc (.cells cs e)) K Q:=by
 refine j8 _ bw s x bn base v n xs hs (aB.alloc _) _ 1 1 cs.toList hx (Src.block (heap_alloc_new S _) 1 ad ac) r y (by simp;omega) (λh=>nomatch h) λG ab au aU bE=>?_;exact h G ab au ⟨aU.os,aU.tape,aU.output,by have:=aU.size;simp at this;omega,λk ap be=>(aU.block k (by simp;omega) be).trans (Below.heap_alloc S _ k ap)⟩ (by simpa using bE)
theorem po:ch prog 51 53 (.agg #[.int .i64 0,.int .i64 0,.string ⟨#[]⟩,.slice none 0 0]) 4 56:=ch.mk' Tryz.underlying51 (by kernel_rfl) rfl ad
abbrev fresh(w ab:World):Nat->Prop:=λb=>w.heap.size<=b/\b<ab.heap.size
theorem Dz{w aT:World}(h:d.rep aS (fresh w aS) cs)(O:Ext aS aT):d.rep aT (fresh w aT) cs:=
 D.aL (λ_ ak=>⟨ak.1,KE ak.2 O.size⟩) _ _ (D.aS (λb ak=>O.block b ak.2 (λh=>h)) _ _ h)
theorem vJ{S w ab:World}(h:d.rep ab (fresh w ab) cs)(O:S.heap.size<=w.heap.size):d.rep ab (fresh S ab) cs:=
 D.aL (λ_ ak=>⟨KU O ak.1,ak.2⟩) _ _ h
def qT(e:dL):Value:=.agg #[.string e.name,.int .i64 e.kind,.int .i64 e.n]
def iU:Option dL->Value
 | some e=>.tuple #[qT e,.bool true]
 | none=>.tuple #[.agg #[.string ⟨#[]⟩,.int .i64 0,.int .i64 0],.bool false]
theorem jR(h:∀(j:Nat) (x:dL),l[j]?=some x->x.name≠s):dA l s=none:=by
 unfold dA;rw[List.find?_eq_none];exact zB
theorem tF(ap:l[k]?=some e)(he:e.name=s)(h:∀(j:Nat) (x:dL),j<k->l[j]?=some x->x.name≠s):dA l s=some e:=by
 induction l generalizing k with
 | nil=>simp at ap
 | cons a l ao=>
  cases k with
  | zero=>
   simp only[List.getElem?_cons_zero,Lg] at ap;subst ap;unfold dA
   rw[List.find?_cons_of_pos (by simpa using he)]
  | succ k=>
   simp only[List.getElem?_cons_succ] at ap;have bx:=h 0 a ad rfl;unfold dA;rw[List.find?_cons_of_neg (by simpa using bx)];exact ao ap λj x bi hx=>h (j+1) x ad (by simpa using hx)
theorem dV(A:Lp)(n c:Nat)(l:List dL)(s:ByteArray)(w:World)(h:Sl w (av w) A n (l.map bY))(hn:n<=1000000) :
  Calls prog 69 #[.slice A n c,.string s] w λe ab=>e=.returned (iU (dA l s))/\Ext w ab:=by
 have H:=ae h;have b9:=ae (show l.length=n by rw[<-h.1,KH]);clear h;go_enter func69,ntmps69;go_wp2;generalize ba:World.alloc _ _=W;have aw:=aX ba;have aR:=aK ba;clear ba;have bq:=ae aw;have bo:=ae (H.on (Fr.ext aw));obtain⟨a0,ai,af⟩:=aR.two;have b1:=ae aR;clear aw aR
 go_loop [6] (λbd=>∃k:Nat,k<=n/\bd=.int .i64 k/\∀(j:Nat) (x:dL),j<k->l[j]?=some x->x.name≠s) (λbd=>n - (intOf bd).toNat)
 case atStart=>exact⟨0,ad,rfl,λj x h=>ad⟩
 case round=>
  obtain⟨k,ap,rfl,be⟩:=hrel;have b4:=ae be;clear be;by_cases ak:k<n
  .obtain⟨b,o,x,cs,rfl,O,hx,a5,bj,Z⟩:=bo.g0 x9 ak;obtain rfl:=iy.1 a5;have c0:=Z 0 _ rfl;have c1:=Z 1 _ rfl;have c2:=Z 2 _ rfl;simp only[KN] at c0;have aV:b<W.heap.size:=O;have aQ:=ae hx;clear hx a5 bj Z O;by_cases hs:x.name=s
   .have bT:=ae (tF aQ.o hs b4.o);subst hs;go_wp2;generalize hX:World.setCell _ _ _=X;have bs:aq X w.heap.size 145 #[.string x.name,.int .i64 x.kind,.int .i64 x.n]:=hX▸((b1.aM 0 _).aM 1 _).aM 2 _;have a3:Ext w X:=hX▸((bq.setCell (.inr (KD _)) _).setCell (.inr (KD _)) _).setCell (.inr (KD _)) _;obtain⟨e0,a6,aP⟩:=bs.two;clear a0 ai af;refine Lk (v:=.tuple #[.agg #[.string x.name,.int .i64 x.kind,.int .i64 x.n],.bool true]) (by simp[results,Tryz.results69,go_sem,e0]) rfl ?_;exact⟨by rw[bT.o];rfl,a3⟩
   .have q:=s3 hs;have u:=ae hs;clear hs;go_wp2
    go_round
    case rel=>exact⟨k+1,ad,by go_num,λj y bi bb=>by
     by_cases z:j=k
     .subst z;rw[aQ.o] at bb;injection bb with bb;subst bb;exact u.o
     .exact b4.o j y ad bb⟩
    case measure=>exact aG
  .have bT:=ae (jR (l:=l) (s:=s) λj x bi=>b4.o j x (by have:=(List.getElem?_eq_some_iff.1 bi).1;have:=b9.o;omega) bi);go_wp2;generalize hX:World.setCell _ _ _=X;have bs:aq X w.heap.size 145 #[.string ⟨#[]⟩,.int .i64 0,.int .i64 0]:=hX▸((b1.aM 0 _).aM 1 _).aM 2 _;have a3:Ext w X:=hX▸((bq.setCell (.inr (KD _)) _).setCell (.inr (KD _)) _).setCell (.inr (KD _)) _;obtain⟨e0,a6,aP⟩:=bs.two;clear a0 ai af;refine Lk (v:=.tuple #[.agg #[.string ⟨#[]⟩,.int .i64 0,.int .i64 0],.bool false]) (by simp[results,Tryz.results69,go_sem,e0]) rfl ?_;exact⟨by rw[bT.o];rfl,a3⟩
structure tk(w:World)(g:Nat)(l:List dL):Prop where
 lt:g<w.heap.size
 ex:∃A n c,n<=1000000/\w.cell? ⟨g,3,none⟩=some (.slice A n c)/\Sl w (av w) A n (l.map bY)
theorem tk.on{w ab:World}{g:Nat}(h:tk w g l)(O:Ext w ab):tk ab g l:=by
 exact CZ
theorem mW(g:Nat)(l:List dL)(s:ByteArray)(v:dL)(J:dA l s=some v)(ap:v.kind=1\/v.kind=4)(st:Int)(w:World)(h:tk w g l) :
  Calls prog 136 #[.pointer (some ⟨g,0,none⟩),.string s,.int .i64 st] w λe ab=>e=.returned (qT v)/\Ext w ab:=by
 have H:=ae h;clear h;go_enter func136,ntmps136;go_upto_region 1 with(fail);generalize ba:World.alloc _ _=W;have aw:=aX ba;have aR:=aK ba;obtain⟨a2,A,n,c,hn,c3,hs⟩:=H.on aw;obtain⟨b1,bq,bo⟩:=eh aR aw hs;clear ba aw aR hs;go_wp2_with(fail);refine(dV A n c l s W bo.o hn).mono ?_;rintro e aS ⟨rfl,ar⟩;have bu:=ae (bq.trans ar);have G:=ae (b1.ai ar);rw[J];simp only[iU,qT];clear ar c3 a2;go_upto_region 2 with(fail);generalize hV:World.alloc _ _=V;have L:=aX hV;have a4:=ae (bu.trans L);have br:=ae (G.ai L);have hC:=aK hV;obtain⟨a0,ai,af⟩:=hC.two;obtain⟨a8,am,aF⟩:=br.two;clear hV L hC;have fin:∀X,X=((V.setCell ⟨w.heap.size,0,none⟩ (.string v.name)).setCell ⟨w.heap.size,1,none⟩ (.int .i64 v.kind)).setCell ⟨w.heap.size,2,none⟩ (.int .i64 v.n)->aq X w.heap.size 145 #[.string v.name,.int .i64 v.kind,.int .i64 v.n]/\Ext w X:=by
  rintro X rfl;exact⟨((br.aM 0 _).aM 1 _).aM 2 _,((a4.setCell (.inr (KD _)) _).setCell (.inr (KD _)) _).setCell (.inr (KD _)) _⟩
 have d:=ae fin;clear fin;obtain⟨bi,cL,e4⟩:=v;simp only at *;rcases ap with rfl|rfl
 all_goals
  go_wp2;generalize hX:World.setCell _ _ _=X;obtain⟨bD,a7⟩:=d.o X hX.symm;obtain⟨e0,a6,aP⟩:=bD.two;clear a0 ai af a8 am aF;refine Lk (v:=.agg #[.string bi,.int .i64 _,.int .i64 e4]) (by simp[results,Tryz.results136,go_sem,e0];rfl) rfl ?_;exact⟨rfl,a7⟩
def fS(l:List dL):VE->Prop
 | .num _=>True
 | .g1 s=>∃v,dA l s=some v/\(v.kind=1\/v.kind=4)
 | .loc _=>False
 | .iB _=>False
 | .un op x=>(op=3\/op=4)/\fS l x
 | .bin op x y=>(5<=op/\op<=17)/\fS l x/\fS l y
theorem xn(x:VE):x.args.length<=2:=by cases x<;>simp[VE.args]
def oX(l:List dL)(x:VE):Prop:=∀(g:Nat) (st op n:Int) (s:ByteArray) (A:Lp) (m c:Nat) (w:World),tk w g l->(bk x).rep w (av w) [.int .i64 op,.int .i64 n,.string s,.slice A m c]->
 Calls prog 135 #[.pointer (some ⟨g,0,none⟩),.agg #[.int .i64 op,.int .i64 n,.string s,.slice A m c],.int .i64 st] w λr ab=>
  ∃(o aP:Int) (Q:ByteArray) (I:Lp) (bK aJ:Nat),r=.returned (.agg #[.int .i64 o,.int .i64 aP,.string Q,.slice I bK aJ])/\(bk (bJ l x)).rep ab (fresh w ab) [.int .i64 o,.int .i64 aP,.string Q,.slice I bK aJ]/\Ext w ab
abbrev J3(B:Nat)(wr:World)(v:Value):Nat->Prop:=λb=>B<=b/\b<wr.heap.size/\v.ownBlock≠some b
structure yQ(w wr:World)(l:List dL)(x:VE)(A:Lp)(m c k:Nat)(I:Lp)(aJ:Nat)(xs:List Value):Prop where
 ext:Ext w wr
 b4:aq wr w.heap.size 53 #[.int .i64 x.a9,.int .i64 x.numOf,.string x.bu,.slice A m c]
 b6:aq wr (w.heap.size+1) 53 #[.int .i64 0,.int .i64 0,.string ⟨#[]⟩,.slice none 0 0]
 b8:aq wr (w.heap.size+2) 53 #[.int .i64 x.a9,.int .i64 x.numOf,.string ⟨#[]⟩,.slice I k aJ]
 own:wr.ownsRow (w.heap.size+3) 53 4 (.slice I k aJ) k xs
 aQ:D.aQ wr (J3 (w.heap.size+3) wr (.slice I k aJ)) ((x.args.take k).map λy=>bk (bJ l y)) xs
theorem yQ.next{w wr aT:World}{x y:VE}{m c:Nat}{I cC:Lp}{aJ c3:Nat}{xs:List Value}{cN:List Value}(h:yQ w wr l x A m c k I aJ xs)(bb:x.args[k]?=some y)
  (he:Ext wr aS) (a5:(bk (bJ l y)).rep aS (fresh wr aS) cN) (aB:aT.ownsRow (w.heap.size+3) 53 4 (.slice cC (k+1) c3) (k+1) (xs++cN)) (a2:aS.grownBy aT (Value.slice I k aJ).ownBlock)
  (O:(Value.slice cC (k+1) c3).ownBlock=(Value.slice I k aJ).ownBlock\/(Value.slice cC (k+1) c3).ownBlock=some (aS.heap.size+1)) (hX:aT.setCell ⟨w.heap.size+2,3,none⟩ (.slice cC (k+1) c3)=X) :
  yQ w X l x A m c (k+1) cC c3 (xs++cN):=by
 have ak:∀g,(Value.slice I k aJ).ownBlock=some g->w.heap.size+3<=g/\g<wr.heap.size:=λg a2=>h.own.lt g a2;have d:=h.b8.lt;have e1:=he.size;have e2:=a2.size;have b8:=cJ hX;have a:∀b,b<aS.heap.size->b≠w.heap.size+2->some b≠(Value.slice I k aJ).ownBlock->X.heap[b]?=aS.heap[b]?:=λb ac au aU=>(b8.block b ad au).trans (a2.block b ac aU);have be:∀b,b<w.heap.size+3->some b≠(Value.slice I k aJ).ownBlock:=λb O he=>by have:=ak b he.symm;omega
 have cb:∀b,b<wr.heap.size->b≠w.heap.size+2->some b≠(Value.slice I k aJ).ownBlock->X.heap[b]?=wr.heap[b]?:=λb ac au aU=>(a b ad au aU).trans (he.block b ac λh=>h);have H:X.heap.size=aT.heap.size:=by rw[<-hX];simp
 refine⟨?_,?_,?_,?_,?_,?_⟩
 .refine⟨?_,?_,?_,by have:=h.ext.size;omega,λb O _=>?_⟩
  .exact b8.os.trans (a2.os.trans (he.os.trans h.ext.os))
  .exact b8.tape.trans (a2.tape.trans (he.tape.trans h.ext.tape))
  .exact b8.output.trans (a2.output.trans (he.output.trans h.ext.output))
  .have:=h.ext.size;exact(cb b ad ad (be b ad)).trans (h.ext.block b O λh=>h)
 .exact(cb _ ad ad (be _ ad)).trans h.b4
 .exact(cb _ ad ad (be _ ad)).trans h.b6
 .have cG:aq aT (w.heap.size+2) 53 #[.int .i64 x.a9,.int .i64 x.numOf,.string ⟨#[]⟩,.slice I k aJ]:=(h.b8.ai he).grown a2 (be _ ad);rw[<-hX];exact cG.aM 3 _
 .refine⟨aB.1,?_⟩;rcases aB.2 with au|⟨g,cap,cur,bI,j,a9,rest⟩
  .exact .inl au
  .exact .inr ⟨g,cap,cur,bI,j,(b8.block g (Array.getElem?_eq_some_iff.1 a9).1 ad).trans a9,rest⟩
 .rw[List.take_add_one,bb,KK];refine D.cG ?_ ?_
  .refine D.bV (λb aZ=>⟨aZ.1,by have:=aZ.2.1;omega,λhc=>?_⟩) _ _ (D.bU (λb aZ=>cb b aZ.2.1 (aC aZ.1) λhe=>aZ.2.2 he.symm) _ _ h.aQ);rcases O with O|O
   .rw[O] at hc;exact aZ.2.2 hc
   .rw[O] at hc;injection hc with hc;have:=aZ.2.1;omega
  .simp only[Option.toList_some,KJ,Lb];rw[D.bj];refine D.aL (λb aZ=>⟨by have:=aZ.1;omega,by have:=aZ.2;omega,λhc=>?_⟩) _ _ (D.aS (λb aZ=>a b aZ.2 (aC aZ.1) λhe=>by have:=(ak b he.symm).2;have:=aZ.1;omega) _ _ a5);rcases O with O|O
   .rw[O] at hc;have:=(ak b hc).2;have:=aZ.1;omega
   .rw[O] at hc;injection hc with hc;have:=aZ.2;omega
theorem wq(l:List dL)(x:VE)(h:(∃op y,x=.un op y)\/∃op y z,x=.bin op y z):(bJ l x).a9=x.a9/\(bJ l x).numOf=x.numOf/\(bJ l x).bu=⟨#[]⟩/\(bJ l x).args=x.args.map (bJ l):=by
 rcases h with⟨op,y,rfl⟩|⟨op,y,z,rfl⟩<;>exact⟨rfl,rfl,rfl,rfl⟩
theorem xv{w:World}{g:Nat}{aj:Value}{cs:Array Value}(hs:cs.size=4)(aR:aq V g 53 cs)(aw:Ext w V)(a2:w.heap.size<=g)(hX:(((V.setCell ⟨g,0,none⟩ v0).setCell ⟨g,1,none⟩ v1).setCell ⟨g,2,none⟩ v2).setCell ⟨g,3,none⟩ aj=X):
  aq X g 53 #[v0,v1,v2,aj]/\Ext w X/\Fr (λb=>b=g) V X:=by
 subst hX;refine⟨?_,(((aw.setCell (.inr a2) _).setCell (.inr a2) _).setCell (.inr a2) _).setCell (.inr a2) _,((((Fr.refl (λb=>b=g) V).setCell (.inl rfl) _).setCell (.inl rfl) _).setCell (.inl rfl) _).setCell (.inl rfl) _⟩;have:=(((aR.aM 0 v0).aM 1 v1).aM 2 v2).aM 3 aj
 match cs,hs with
 | ⟨[c0,c1,c2,c3]⟩,_=>exact this
namespace Bg
theorem pa(h:p:=by
 have al:m<=2:=by rw[<-hs.1,KH];exact xn x
 have ce:x.args.length=m:=by rw[<-hs.1,KH]
 obtain⟨bL,b9,bo,cq⟩:=iS ce bR hs ao;have cn:=ae (wq l x r);clear a5 ao bR hs ce r;go_enter func135,ntmps135;go_upto_region 1 with(fail);generalize ba:World.alloc _ _=W;have aw:=iN ba;have b6:=gC ba;have cD:=ga ba;have cZ:W.heap.size=w.heap.size+2:=by rw[<-ba];simp
 clear ba;obtain⟨a0,ai,af⟩:=b6.two;go_upto_region 7 with(fail);generalize hV:World.alloc _ _=V;have L:=aX hV;have hC:aq V (w.heap.size+2) 53 #[.int .i64 x.a9,.int .i64 x.numOf,.string ⟨#[]⟩,.slice none 0 0]:=hV▸aq.gz _ _ _ cZ.symm;have HA:=ae (show yQ w V l x A m c 0 none 0 [] from ⟨aw.trans L,b6.ai L,cD.ai L,hC,⟨by simp,.inl ⟨rfl,rfl⟩⟩,by simp only[List.take_zero,Lb,D.aQ]⟩);clear hV L hC b6 cD aw cZ a0 ai af;go_wp2;go_loopw [9] (λbd wr=>∃(k:Nat) (I:Lp) (aJ:Nat) (xs:List Value),k<=m/\bd=.int .i64 k/\yQ w wr l x A m c k I aJ xs) (λbd _=>m - (intOf bd).toNat)
 case atStart=>exact⟨0,none,0,[],ad,rfl,HA.o⟩
 case round=>
  obtain⟨k,I,aJ,xs,ap,rfl,bw⟩:=hrel;clear HA;have HA:=ae bw;obtain⟨a0,ai,af⟩:=bw.b4.two;obtain⟨a8,am,aF⟩:=bw.b6.two;obtain⟨e0,a6,aP⟩:=bw.b8.two;by_cases ak:k<m
  .obtain⟨b,o,y,cs,rfl,O,bb,Q,bj,Z⟩:=(bo.on (Fr.ext bw.ext)).g0 c7 ak
   match cs,bj with
   | [cr,cy,cd,bv],_=>
   have c0:=Z 0 cr rfl;have c1:=Z 1 cy rfl;have c2:=Z 2 cd rfl;have c3:=Z 3 bv rfl;simp only[KN] at c0;have aV:b<wr.heap.size:=O;obtain⟨B,bN,bc,e,cv,b2⟩:=a1.1 Q;simp only[List.cons.injEq,and_true] at e;obtain⟨rfl,rfl,rfl,rfl⟩:=e;obtain⟨bB,H⟩:=aH bb Q;have bQ:=ae (cq.o k y bb);have F:=ae (b9.on bw.ext);clear bb Q b2 Z O bw a8 am aF;go_wp2;refine eK (λ_=>False) [(0,3),(1,0),(2,3),(3,3),(4,0),(5,3),(6,3),(7,0),(8,3),(9,1),(10,1),(11,2),(12,3),(13,2)] ?_;refine pf ?_;refine ph ?_
   iterate 2 refine pf ?_
   refine ph ?_
   iterate 2 refine pf ?_
   refine ph ?_;refine pf ?_;refine aI rfl (λK hK=>?_);go_simp;refine(bQ.o g st _ _ _ _ _ _ _ (F.on Ll.drew) (D.on H.o (Fr.ext Ll.drew))).mono ?_;rintro e aS ⟨o1,n1,s1,bU,da,cp,rfl,cV,ar⟩;refine dz hK (ar) ?_;clear hK K;have aN:Ext wr aS:=Fr.aF ar;have G:(bk (bJ l y)).rep aS (fresh wr aS) [.int .i64 o1,.int .i64 n1,.string s1,.slice bU da cp]:=cV;have av:=ah aN G;refine qV ?_;refine ax rfl (λK hK=>?_);rw[if_pos (by rfl)];have cG:w.heap.size+3<=aS.heap.size:=by have:=HA.b8.lt;have:=aN.size;omega
   refine xU _ po (.tmp 40) (.tmp 49) (by rfl) (w.heap.size+3) (.slice I k aJ) k xs _ (by rfl) (b0 HA.own (Fr.ext aN)) (by rfl) (by rfl) (by simp[Value.oneCell']) ad ad cG ?_;intro v2 aT az bF E;obtain⟨cC,bh,rfl,bf,_⟩:=b1 az;have i:aq aT (w.heap.size+2) 53 _:=(HA.b8.ai aN).grown bF (λhe=>by have:=HA.own.lt _ he.symm;omega);have b4:=aD az bF E;clear az bF E cV G ar a0 ai af e0 a6 aP c0 c1 c2 c3 aV;obtain⟨e0,a6,aP⟩:=i.two;refine dO hK ?_;clear hK K;refine pf ?_;refine ax rfl (λK hK=>?_);go_simp;refine dO hK ?_;clear hK K;refine aE ?_;clear e0 a6 aP;generalize hX:World.setCell aT _ _=X;have cH:=ae (HA.next bB.o av.1 av.2 b4.1 b4.2.1 b4.2.2 hX);clear hX i aN;go_wp2;go_roundw
   case rel=>exact⟨k+1,cC,bh,_,ad,by go_num,cH.o⟩
   case measure=>exact aG
  .obtain rfl:m=k:=ad;clear bw;go_wp2;generalize hX:World.setCell _ _ _=X;obtain⟨bD,a7,aY⟩:=xv rfl HA.b6 HA.ext (Nat.le_succ _) hX;obtain⟨bl,aA,aO⟩:=bD.two;clear a0 ai af a8 am aF e0 a6 aP;refine Lk (v:=.agg #[.int .i64 x.a9,.int .i64 x.numOf,.string ⟨#[]⟩,.slice I m aJ]) (by simp[results,Tryz.results135,go_sem,bl]) rfl ?_;refine⟨_,_,_,_,_,_,rfl,?_,a7⟩;obtain⟨ac,au,aU,bE⟩:=cn.o;have aB:=HA.own;obtain⟨_,_,bI,hle,_⟩:=b1 aB;injection bI with eh u hv3;have b5:=HA.aQ;have ak:∀g,(Value.slice I m aJ).ownBlock=some g->w.heap.size+3<=g/\g<wr.heap.size:=λg a2=>aB.lt g a2;have ca:X.heap.size=wr.heap.size:=by rw[<-hX];simp
   rw[<-bL.o,List.take_length] at b5;refine a1.2 ⟨I,m,aJ,by rw[ac,au,aU],ad,?_⟩;rw[bE,List.map_map];have f:X.ownsRow (w.heap.size+3) 53 4 (.slice I m aJ) m xs:=by
    refine⟨aB.1,?_⟩;rcases aB.2 with au|⟨g,cap,cur,bI,j,a9,rest⟩
    .exact .inl au
    .exact .inr ⟨g,cap,cur,bI,j,(aY.block g (Array.getElem?_eq_some_iff.1 a9).1 ad).trans a9,rest⟩
   refine Sl.p9 f (D.bV (λb aZ=>⟨by have:=aZ.1;omega,by have:=aZ.2.1;omega⟩) _ _ (D.bU (λb aZ=>aY.block b aZ.2.1 (aC aZ.1)) _ _ b5)) (by rw[KH];exact bL.o) (λg _ ac au=>⟨ad,au⟩)
 ):p:=h
end Bg
open Bg in
theorem rp(l:List dL)(x:VE)(r:(∃op y,x=.un op y)\/∃op y z,x=.bin op y z)(cI:(x.a9 == 2)=false)(ao:∀(k:Nat) (y:VE),x.args[k]?=some y->oX l y):oX l x:=by
 intro g st op n s A m c w bR a5;exact o9
def VE.leaf:VE->Prop
 | .un _ _=>False
 | .bin _ _ _=>False
 | _=>True
namespace Bh
theorem pa(h:p:=by
 have al:m<=2:=by rw[<-hs.1,KH];exact xn x
 have ce:x.args.length=m:=by rw[<-hs.1,KH]
 obtain⟨b9,bo,cq⟩:=eh bR hs ao;clear a5 ao bR hs;go_enter func135,ntmps135;go_upto_region 1 with(fail);generalize ba:World.alloc _ _=W;have aw:=iN ba;have b6:=gC ba;have cD:=ga ba;have cZ:W.heap.size=w.heap.size+2:=by rw[<-ba];simp
 clear ba;obtain⟨bq,T,bI⟩:=eh aw b6 cD;obtain⟨a0,ai,af⟩:=b6.two;obtain⟨a8,am,aF⟩:=cD.two;clear aw b6 cD
 cases x with
 | loc j=>exact hx.elim
 | iB j=>exact hx.elim
 | g1 s=>
  obtain⟨v,J,ap⟩:=hx;have d:=ae (show bJ l (.g1 s)=if v.kind=1 then .iB v.n else .loc v.n by unfold bJ;simp only[J]);simp only[VE.a9,VE.numOf,VE.bu] at *;go_wp2_with(fail);refine(mW g l s v J ap st W (b9.on bq.o)).mono ?_;rintro e aS ⟨rfl,ar⟩;have bu:=ae (bq.trans ar);have i:=ae (bI.ai ar);clear ar a0 ai af a8 am aF J;obtain⟨bi,cL,e4⟩:=v;simp only[qT] at *;go_upto_region 3 with(fail);generalize hV:World.alloc _ _=V;have L:=aX hV;have a4:=ae (bu.trans L);have u:=ae (i.ai L);have hC:=aK hV;obtain⟨a0,ai,af⟩:=hC.two;obtain⟨a8,am,aF⟩:=u.two;clear hV L hC;rcases ap with rfl|rfl
  .go_wp2;generalize hX:World.setCell _ _ _=X;obtain⟨bD,a7,_⟩:=xv rfl u.o a4.o (Nat.le_succ _) hX;obtain⟨e0,a6,aP⟩:=bD.two;clear a0 ai af a8 am aF;refine Lk (v:=.agg #[.int .i64 19,.int .i64 e4,.string ⟨#[]⟩,.slice none 0 0]) (by simp[results,Tryz.results135,go_sem,e0]) rfl ?_;refine⟨_,_,_,_,_,_,rfl,?_,a7⟩;rw[show bJ l (.g1 s)=.iB e4 by simpa using d.o];exact a1.2 ⟨none,0,0,rfl,KD _,Sl.bN _⟩
  .go_wp2;generalize hX:World.setCell _ _ _=X;obtain⟨bD,a7,_⟩:=xv rfl u.o a4.o (Nat.le_succ _) hX;obtain⟨e0,a6,aP⟩:=bD.two;clear a0 ai af a8 am aF;refine Lk (v:=.agg #[.int .i64 18,.int .i64 e4,.string ⟨#[]⟩,.slice none 0 0]) (by simp[results,Tryz.results135,go_sem,e0]) rfl ?_;refine⟨_,_,_,_,_,_,rfl,?_,a7⟩;rw[show bJ l (.g1 s)=.loc e4 by simpa using d.o]
   exact a1.2 ⟨none,0,0,rfl,KD _,Sl.bN _⟩
 | num n=>
  obtain rfl:0=m:=ce;simp only[VE.a9,VE.numOf,VE.bu] at *;go_upto_region 7 with(fail);generalize hV:World.alloc _ _=V;have L:=aX hV;have a4:=ae (bq.trans L);have u:=ae (bI.ai L);have hC:aq V (w.heap.size+2) 53 #[.int .i64 1,.int .i64 n,.string ⟨#[]⟩,.slice none 0 0]:=hV▸aq.gz _ _ _ cZ.symm;have f:=T.ai L;clear a0 ai af a8 am aF;obtain⟨c0,bV,bt⟩:=f.two;obtain⟨a0,ai,af⟩:=hC.two;obtain⟨a8,am,aF⟩:=u.two;clear hV L hC f;go_wp2;refine wp_loop_rounds 1 ?_;rw[rounds_succ];go_wp2;generalize hX:World.setCell _ _ _=X;obtain⟨bD,a7,_⟩:=xv rfl u.o a4.o (Nat.le_succ _) hX;obtain⟨e0,a6,aP⟩:=bD.two;clear a0 ai af a8 am aF;refine Lk (v:=.agg #[.int .i64 1,.int .i64 n,.string ⟨#[]⟩,.slice none 0 0]) (by simp[results,Tryz.results135,go_sem,e0]) rfl ?_
  exact⟨_,_,_,_,_,_,rfl,a1.2 ⟨none,0,0,rfl,KD _,Sl.bN _⟩,a7⟩
 | un op y=>exact bQ.elim
 | bin op y z=>exact bQ.elim
 ):p:=h
end Bh
open Bh in
theorem rq(l:List dL)(x:VE)(hx:fS l x)(bQ:x.leaf)(ao:∀(k:Nat) (y:VE),x.args[k]?=some y->oX l y):oX l x:=by
 intro g st op n s A m c w bR a5;exact o9
theorem kV(l:List dL)(x:VE)(hx:fS l x)(ao:∀(k:Nat) (y:VE),x.args[k]?=some y->oX l y):oX l x:=by
 cases x with
 | un op y=>exact rp l _ (.inl ⟨_,_,rfl⟩) (by rcases hx.1 with h|h<;>(show (op == 2)=false;rw[h];rfl)) ao
 | bin op y z=>exact rp l _ (.inr ⟨_,_,_,rfl⟩) (by have:=hx.1.1;show (op == 2)=false;simp;omega) ao
 | num n=>exact rq l _ hx trivial ao
 | g1 n=>exact rq l _ hx trivial ao
 | loc j=>exact hx.elim
 | iB j=>exact hx.elim
theorem gg(l:List dL):∀(x:VE),fS l x->oX l x
 | .num n,h=>kV l _ h λk y bb=>by simp[VE.args] at bb
 | .g1 n,h=>kV l _ h λk y bb=>by simp[VE.args] at bb
 | .loc n,h=>h.elim
 | .iB n,h=>h.elim
 | .un op y,h=>kV l _ h λk z bt=>by
  match k,bt with
  | 0,bt=>simp[VE.args] at bt;subst bt;exact gg l y h.2
 | .bin op x y,h=>kV l _ h λk z bt=>by
  match k,bt with
  | 0,bt=>simp[VE.args] at bt;subst bt;exact gg l x h.2.1
  | 1,bt=>simp[VE.args] at bt;subst bt;exact gg l y h.2.2
structure xY(w:World)(g:Nat)(M:List bG):Prop where
 lt:g<w.heap.size
 ex:∃A n c,n<=1000000/\w.cell? ⟨g,1,none⟩=some (.slice A n c)/\Sl w (av w) A n (M.map ey)
theorem xY.on{w ab:World}{g:Nat}{M:List bG}(h:xY w g M)(O:Ext w ab):xY ab g M:=by
 exact CZ
def ql(M:List bG)(l:List dL)(r:eO):Prop:=∃v,dA l r.name=some v/\
 ((v.kind=5/\r.idx=none)\/(v.kind=2/\∃m,0<=v.n/\M[v.n.toNat]?=some m/\(0<m.size->∃e,r.idx=some e/\fS l e)/\(¬0<m.size->r.idx=none)))
theorem dT{w:World}{p:bQ}:(di p).rep w P cs↔∃A n c,cs=[.bool p.param,.int .i64 p.index,.slice A n c]/\n<=c/\Sl w P A n (p.at_.toList.map bk):=by
 unfold di;rw[bI,fp];constructor
 .rintro⟨y,rfl,h⟩;rw[bm] at h;obtain⟨cd,rfl,h⟩:=h;rw[aN] at h;obtain⟨A,n,c,bv,rfl,hc,hs,aU⟩:=h;exact r3
 .rintro⟨A,n,c,rfl,hc,hs⟩;exact⟨_,rfl,bm.2 ⟨_,rfl,aN.2 ⟨A,n,c,[],rfl,hc,hs,aP.2 rfl⟩⟩⟩
theorem pI{w:World}{g:Nat}{c0 c1 c2:Value}(aR:aq V g t #[c0,c1,c2])(aw:Ext w V)(a2:w.heap.size<=g)(hX:((V.setCell ⟨g,0,none⟩ v0).setCell ⟨g,1,none⟩ v1).setCell ⟨g,2,none⟩ v2=X):
  aq X g t #[v0,v1,v2]/\Ext w X/\Fr (λb=>b=g) V X:=by
 subst hX;exact⟨((aR.aM 0 v0).aM 1 v1).aM 2 v2,((aw.setCell (.inr a2) _).setCell (.inr a2) _).setCell (.inr a2) _,(((Fr.refl (λb=>b=g) V).setCell (.inl rfl) _).setCell (.inl rfl) _).setCell (.inl rfl) _⟩
def GV(w:World)(p:bQ)(e:Ending)(ab:World):Prop:=
 ∃(b:Bool) (i:Int) (A:Lp) (n c:Nat),e=.returned (.agg #[.bool b,.int .i64 i,.slice A n c])/\(di p).rep ab (fresh w ab) [.bool b,.int .i64 i,.slice A n c]/\Ext w ab
def uT:Prop:=∀(g:Nat) (l:List dL) (M:List bG) (r:eO),ql M l r->∀(st:Int) (s:ByteArray) (A:Lp) (n c:Nat) (w:World),tk w g l->xY w g M->(kx r).rep w (av w) [.string s,.slice A n c]->
  Calls prog 138 #[.pointer (some ⟨g,0,none⟩),.agg #[.string s,.slice A n c],.int .i64 st] w (GV w (l6 l r))
end Go.Proofs.YtglbpimocmhojaaGreat
