/- Part 15 of the proof. No condition of its own. -/
import Derived.Test.YtflecliffjbleaaGreatQ09
namespace Go.Proofs.YtflecliffjbleaaGreat
open Go.RowKit Go.Proofs.Tryz
set_option maxRecDepth 1000000
set_option maxHeartbeats 25600000
set_option linter.unusedVariables false
variable{s:ByteArray}{d:D}{cs xs:List Value}{c:List ay}{l:List dG}{k n:Nat}{P:Nat->Prop}{A:LP}{p:Prop}{t:TypeId}{v0 v1 v2:Value}{V X aP:World}{e:dG}
theorem gK{w:World}{l:List D}:D.aJ w P (d::l) cs↔∃x y,cs=x++y/\d.rep w P x/\D.aJ w P l y:=by simp only[D.aJ]
theorem jC{w:World}{r:eN}:(kJ r).rep w P cs↔∃A n c,cs=[.string r.name,.slice A n c]/\n<=c/\Sl w P A n (r.idx.toList.map bf):=by
 unfold kJ;rw[bB,ch];constructor
 .rintro⟨y,rfl,h⟩;rw[aF] at h;obtain⟨A,n,c,aa,rfl,hc,hs,aU⟩:=h;exact xE
 .rintro⟨A,n,c,rfl,hc,hs⟩;exact CW
def bS(e:dG):D:=.st [.s e.name,.i e.kind,.i e.n]
theorem yE(e:dG):(bS e).sz=3:=rfl
theorem iw{w:World}:(bS e).rep w P cs↔cs=[.string e.name,.int .i64 e.kind,.int .i64 e.n]:=by
 unfold bS;rw[bB,ch];constructor
 .rintro⟨y,rfl,h⟩;rw[a5] at h;exact zM
 .rintro rfl;exact⟨_,rfl,a5.2 ⟨_,rfl,a5.2 ⟨_,rfl,aK.2 rfl⟩⟩⟩
theorem mR(x:ay):(dV x).sz=12:=by
 have ae:(oH x.expr).sz=4:=by
  cases x.expr with
  | none=>rfl
  | some x=>exact dg x
 unfold dV ds;simp only[D.sz,D.zh,ae]
def Ms(g:Nat)(cv sv:Value):Nat->Prop:=λb=>b=g\/cv.ownBlock=some b\/sv.ownBlock=some b
structure Mv(g:Nat)(cv sv:Value)(w:World)(a f:Value)(ac:World):Prop where
 fr:Fr (Ms g cv sv) w ac
 own:∀b,b<w.heap.size->Ms g a f b->Ms g cv sv b
section
variable {g:Nat} {cv sv a f i j:Value} {w ac aV:World}
theorem Mv.refl(g:Nat)(cv sv:Value)(w:World):Mv g cv sv w cv sv w:=⟨LL,λ_ _ h=>h⟩
theorem Mv.trans(h:Mv g cv sv w a f ac)(k:Mv g a f ac i j aV):Mv g cv sv w i j aV:=by
 refine⟨⟨k.fr.os.trans h.fr.os,k.fr.tape.trans h.fr.tape,k.fr.output.trans h.fr.output,Ls h.fr.size k.fr.size,λb O hn=>?_⟩,λb O hm=>?_⟩
 .exact(k.fr.block b (Lc O h.fr.size) λhm=>hn (h.own b O hm)).trans (h.fr.block b O hn)
 .exact h.own b O (k.own b (Lc O h.fr.size) hm)
theorem Mv.g4(h:Ext w ac):Mv g cv sv w cv sv ac:=⟨h.mono λ_ h=>h.elim,λ_ _ h=>h⟩
theorem Mv.IY(h:Fr (Ms g cv sv) w ac):Mv g cv sv w cv sv ac:=⟨h,λ_ _ h=>h⟩
theorem Mv.IZ(h:Mv g cv sv w a f ac):∀b,off (Ms g cv sv) w b->off (Ms g a f) ac b:=
 λb O=>⟨Lc O.1 h.fr.size,λhm=>O.2 (h.own b O.1 hm)⟩
theorem D.cM(h:d.rep w (off (Ms g cv sv) w) cs)(O:Mv g cv sv w a f ac):d.rep ac (off (Ms g a f) ac) cs:=
 D.aE O.IZ _ _ (D.aP (λb aw=>O.fr.block b aw.1 aw.2) _ _ h)
theorem Sl.cM{l:List D}(h:Sl w (off (Ms g cv sv) w) A n l)(O:Mv g cv sv w a f ac):Sl ac (off (Ms g a f) ac) A n l:=
 (h.ai (λb aw=>O.fr.block b aw.1 aw.2)).mono O.IZ
end
theorem sc{w:World}{P:Nat->Prop}(t:Int):∀(code:List ay) (xs:List Value) (b:Nat),D.aJ w P (code.map dV) xs->b<code.length->D.aJ w P ((fR code b t).map dV) (xs.set (b*12+1) (.int .i64 t))
 | [],xs,b,h,O=>by simp at O
 | x::code,xs,0,h,O=>by
  rw[Lh] at h;obtain⟨k,d,rfl,hx,a4⟩:=gK.1 h;have hl:=(D.lz _ _ hx).trans (mR x);have e:fR (x::code) 0 t={x with target:=t}::code:=rfl;rw[e,Lh,List.set_append_left _ _ ab];refine gK.2 ⟨_,_,rfl,?_,a4⟩;unfold dV at hx ⊢;rw[bB,a5] at hx ⊢;obtain⟨y,rfl,hx⟩:=hx;rw[a5] at hx;obtain⟨br,rfl,hx⟩:=hx
  exact⟨_,rfl,a5.2 ⟨_,rfl,hx⟩⟩
 | x::code,xs,b+1,h,O=>by
  rw[Lh] at h;obtain⟨k,d,rfl,hx,a4⟩:=gK.1 h;have hl:=(D.lz _ _ hx).trans (mR x);have ao:=sc t code d b a4 (by simpa using O);have e:fR (x::code) (b+1) t=x::fR code b t:=rfl;rw[e,Lh,List.set_append_right _ _ ab,hl,show (b+1)*12+1 - 12=b*12+1 by omega];exact gK.2 ⟨_,_,rfl,hx,ao⟩
theorem cp(code:List ay)(b:Nat)(t:Int):(fR code b t).length=code.length:=by unfold fR;rw[List.length_modify]
def kX(x:ay):Prop:=(x.op=2\/x.op=3)\/(x.ints=[]/\x.places=[])
def Eu(u:av):Prop:=∀p∈u.procs,∀x∈p.code,kX x
theorem eB{y:ay}(h:∀x∈c,kX x)(a4:kX y):∀x∈c++[y],kX x:=λx hx=>by
 rcases Lk.1 hx with hx|hx
 .exact h x hx
 .rw[LF.1 hx];exact a4
theorem ka{b:Nat}{t:Int}(h:∀x∈c,kX x):∀x∈fR c b t,kX x:=λx hx=>by
 rcases qp hx with hx|⟨y,a4,rfl⟩
 .exact h x hx
 .exact h y (Le a4)
theorem du:∀(b:ak) (l:List dG) (n:Int) (c:List ay),(∀x∈c,kX x)->∀x∈(dD b l n c).1,kX x
 | .nil,_,_,c,h=>h
 | .set true s e rest,l,n,c,h=>du rest _ _ _ (eB h (.inr ⟨rfl,rfl⟩))
 | .set false s e rest,l,n,c,h=>du rest _ _ _ (eB h (.inr ⟨rfl,rfl⟩))
 | .call g s aI rest,l,n,c,h=>du rest _ _ _ (eB h (.inl (by cases g<;>simp[lQ])))
 | .lock u r rest,l,n,c,h=>du rest _ _ _ (eB h (.inr ⟨rfl,rfl⟩))
 | .ite e th el rest,l,n,c,h=>by
  have ae:=du th l n _ (eB (y:=kt (bC l e) 0) h (.inr ⟨rfl,rfl⟩));simp only[dD];refine du rest _ _ _ ?_;split
  .exact ka ae
  .exact ka (du el l _ _ (ka (eB ae (.inr ⟨rfl,rfl⟩))))
 | .gp e th rest,l,n,c,h=>by
  have ae:=du th l n _ (eB (y:=kt (bC l e) 0) h (.inr ⟨rfl,rfl⟩))
  exact du rest _ _ _ (ka (eB ae (.inr ⟨rfl,rfl⟩)))
 | .ret rest,l,n,c,h=>du rest _ _ _ (eB h (.inr ⟨rfl,rfl⟩))
theorem x2(p:bD):Eu (gE p):=λq br=>by
 simp only[gE,Lz] at br;obtain⟨f,_,rfl⟩:=br;exact eB (du _ _ _ _ (by simp)) (.inr ⟨rfl,rfl⟩)
structure zo(u:av):Prop where
 ok:cP u
 sh:Eu u
theorem zo.IN{u:av}{f:al}(h:zo u)(hF:b0 u f):∃Q x,u.procs[f.proc.toNat]?=some Q/\Q.code[f.pc.toNat]?=some x/\f.proc.toNat<u.procs.length/\f.pc.toNat<Q.code.length/\0<=f.proc/\0<=f.pc/\(∃len:Nat,Q.code.length=len+1/\hR (bj u) Q.locals Q.aw len x)/\x.ints.length<=200/\x.places.length<=200/\(x.op≠8->f.pc+1<Q.code.length)/\qH (bj u) Q:=by
 obtain⟨Q,x,hp,aY,hx,len,hl,ak,hn⟩:=kO h.ok hF;have ae:=(List.getElem?_eq_some_iff.1 hp).1;have aD:=(List.getElem?_eq_some_iff.1 hx).1;have hlen:x.ints.length<=200/\x.places.length<=200:=by
  rcases h.sh Q (Le hp) x (Le hx) with aU|⟨aU,a1⟩
  .rcases ak with⟨a1,_⟩|⟨_,_,sg,_,hs,cd,o,_⟩|⟨a1,_⟩|⟨a1,_⟩|⟨a1,_⟩|⟨a1,_⟩
   .omega
   .simp only[bj,List.getElem?_map] at hs
    cases br:u.procs[x.target.toNat]? with
    | none=>rw[br] at hs;cases hs
    | some r=>
     rw[br] at hs;simp only[Option.map_some,LG] at hs;have aQ:=h.ok.procs r (Le br);have:=aQ.ints;have:=aQ.aw;subst hs;simp only at cd o;omega
   .omega
   .omega
   .omega
   .omega
  .rw[aU,a1];simp
 exact⟨Q,x,hp,hx,ae,aD,hF.proc,hF.pc,⟨len,hl,ak⟩,hlen.1,hlen.2,hn,aY⟩
theorem yo{P:Program}(S:World){o:Oper}{a:Act}{K:Act->World->Prop}{Q:Exit->Act->World->Prop}{e:TypeId}{z:Value}{size bytes:Nat}(bp:ca P t e z size bytes)(s x:Operand)
  (bl:o.op=.call {callee:=.builtin .append,args:=#[s,x],argTypes:=#[t,t]})
  (base:Nat) (v:Value) (n:Nat) (xs:List Value) (cs:Array Value) (hs:a.eval s=v) (ax:S.ownsRow base e size v n xs)
  (hx:a.eval x=.slice (some ⟨S.heap.size,0,none⟩) 1 1) (T:cs.size=size) (ae:∀u∈cs.toList,u.oneCell'=true)
  (y:(n+1)*bytes<=140737488355328) (C:n+1<=140737488355328) (r:base<=S.heap.size)
  (h:∀G ac,ac.ownsRow base e size G (n+1) (xs++cs.toList)->S.grownBy ac v.ownBlock->(G.ownBlock=v.ownBlock\/G.ownBlock=some (S.heap.size+1))->K (a.put o.dst G) ac):o.wp P a (S.alloc (.cells cs e)) K Q:=by
 refine kf _ bp s x bl base v n xs hs (ax.alloc _) _ 1 1 cs.toList hx (Src.block (heap_alloc_new S _) 1 ab ae) y C (by simp;omega) (λh=>nomatch h) λG ac aD aU a1=>?_;exact h G ac aD ⟨aU.os,aU.tape,aU.output,by have:=aU.size;simp at this;omega,λk ai a6=>(aU.block k (by simp;omega) a6).trans (Below.heap_alloc S _ k ai)⟩ (by simpa using a1)
theorem pI:ca prog 54 56 (.agg #[.int .i64 0,.int .i64 0,.string ⟨#[]⟩,.slice none 0 0]) 4 56:=ca.mk' Tryz.underlying54 (by kernel_rfl) rfl ab
abbrev fresh(w ac:World):Nat->Prop:=λb=>w.heap.size<=b/\b<ac.heap.size
theorem Dv{w aV:World}(h:d.rep aP (fresh w aP) cs)(O:Ext aP aV):d.rep aV (fresh w aV) cs:=
 D.aE (λ_ aw=>⟨aw.1,Lc aw.2 O.size⟩) _ _ (D.aP (λb aw=>O.block b aw.2 (λh=>h)) _ _ h)
theorem wg{S w ac:World}(h:d.rep ac (fresh w ac) cs)(O:S.heap.size<=w.heap.size):d.rep ac (fresh S ac) cs:=
 D.aE (λ_ aw=>⟨Ls O aw.1,aw.2⟩) _ _ h
def rp(e:dG):Value:=.agg #[.string e.name,.int .i64 e.kind,.int .i64 e.n]
def iU:Option dG->Value
 | some e=>.tuple #[rp e,.bool true]
 | none=>.tuple #[.agg #[.string ⟨#[]⟩,.int .i64 0,.int .i64 0],.bool false]
theorem jX(h:∀(j:Nat) (x:dG),l[j]?=some x->x.name≠s):dv l s=none:=by
 unfold dv;rw[List.find?_eq_none];exact z1
theorem ud(ai:l[k]?=some e)(he:e.name=s)(h:∀(j:Nat) (x:dG),j<k->l[j]?=some x->x.name≠s):dv l s=some e:=by
 induction l generalizing k with
 | nil=>simp at ai
 | cons a l ao=>
  cases k with
  | zero=>
   simp only[List.getElem?_cons_zero,LG] at ai;subst ai;unfold dv
   rw[List.find?_cons_of_pos (by simpa using he)]
  | succ k=>
   simp only[List.getElem?_cons_succ] at ai;have aW:=h 0 a ab rfl;unfold dv;rw[List.find?_cons_of_neg (by simpa using aW)];exact ao ai λj x bd hx=>h (j+1) x ab (by simpa using hx)
theorem dS(A:LP)(n c:Nat)(l:List dG)(s:ByteArray)(w:World)(h:Sl w (au w) A n (l.map bS))(hn:n<=1000000) :
  Calls prog 70 #[.slice A n c,.string s] w λe ac=>e=.returned (iU (dv l s))/\Ext w ac:=by
 have H:=ad h;have bN:=ad (show l.length=n by rw[<-h.1,Lf]);clear h;go_enter func70,ntmps70;go_wp2;generalize be:World.alloc _ _=W;have aE:=bb be;have aN:=aT be;clear be;have a8:=ad aE;have bB:=ad (H.on (Fr.ext aE));obtain⟨a0,ap,aj⟩:=aN.two;have bx:=ad aN;clear aE aN
 go_loop [6] (λbc=>∃k:Nat,k<=n/\bc=.int .i64 k/\∀(j:Nat) (x:dG),j<k->l[j]?=some x->x.name≠s) (λbc=>n - (intOf bc).toNat)
 case atStart=>exact⟨0,ab,rfl,λj x h=>ab⟩
 case round=>
  obtain⟨k,ai,rfl,a6⟩:=hrel;have bY:=ad a6;clear a6;by_cases aw:k<n
  .obtain⟨b,o,x,cs,rfl,O,hx,aQ,bi,Z⟩:=bB.gZ yE aw;obtain rfl:=iw.1 aQ;have c0:=Z 0 _ rfl;have c1:=Z 1 _ rfl;have c2:=Z 2 _ rfl;simp only[Ll] at c0;have aX:b<W.heap.size:=O;have aR:=ad hx;clear hx aQ bi Z O;by_cases hs:x.name=s
   .have b0:=ad (ud aR.o hs bY.o);subst hs;go_wp2;generalize hX:World.setCell _ _ _=X;have bF:an X w.heap.size 147 #[.string x.name,.int .i64 x.kind,.int .i64 x.n]:=hX▸((bx.aD 0 _).aD 1 _).aD 2 _;have a2:Ext w X:=hX▸((a8.setCell (.inr (Lb _)) _).setCell (.inr (Lb _)) _).setCell (.inr (Lb _)) _;obtain⟨e0,bk,a5⟩:=bF.two;clear a0 ap aj;refine LK (v:=.tuple #[.agg #[.string x.name,.int .i64 x.kind,.int .i64 x.n],.bool true]) (by simp[results,Tryz.results70,go_sem,e0]) rfl ?_;exact⟨by rw[b0.o];rfl,a2⟩
   .have q:=tv hs;have u:=ad hs;clear hs;go_wp2
    go_round
    case rel=>exact⟨k+1,ab,by go_num,λj y bd a4=>by
     by_cases z:j=k
     .subst z;rw[aR.o] at a4;injection a4 with a4;subst a4;exact u.o
     .exact bY.o j y ab a4⟩
    case measure=>exact az
  .have b0:=ad (jX (l:=l) (s:=s) λj x bd=>bY.o j x (by have:=(List.getElem?_eq_some_iff.1 bd).1;have:=bN.o;omega) bd);go_wp2;generalize hX:World.setCell _ _ _=X;have bF:an X w.heap.size 147 #[.string ⟨#[]⟩,.int .i64 0,.int .i64 0]:=hX▸((bx.aD 0 _).aD 1 _).aD 2 _;have a2:Ext w X:=hX▸((a8.setCell (.inr (Lb _)) _).setCell (.inr (Lb _)) _).setCell (.inr (Lb _)) _;obtain⟨e0,bk,a5⟩:=bF.two;clear a0 ap aj;refine LK (v:=.tuple #[.agg #[.string ⟨#[]⟩,.int .i64 0,.int .i64 0],.bool false]) (by simp[results,Tryz.results70,go_sem,e0]) rfl ?_;exact⟨by rw[b0.o];rfl,a2⟩
structure tI(w:World)(g:Nat)(l:List dG):Prop where
 lt:g<w.heap.size
 ex:∃A n c,n<=1000000/\w.cell? ⟨g,3,none⟩=some (.slice A n c)/\Sl w (au w) A n (l.map bS)
theorem tI.on{w ac:World}{g:Nat}(h:tI w g l)(O:Ext w ac):tI ac g l:=by
 exact CS
theorem nj(g:Nat)(l:List dG)(s:ByteArray)(v:dG)(J:dv l s=some v)(ai:v.kind=1\/v.kind=4)(st:Int)(w:World)(h:tI w g l) :
  Calls prog 134 #[.pointer (some ⟨g,0,none⟩),.string s,.int .i64 st] w λe ac=>e=.returned (rp v)/\Ext w ac:=by
 have H:=ad h;clear h;go_enter func134,ntmps134;go_upto_region 1 with(fail);generalize be:World.alloc _ _=W;have aE:=bb be;have aN:=aT be;obtain⟨aK,A,n,c,hn,c3,hs⟩:=H.on aE;obtain⟨bx,a8,bB⟩:=eG aN aE hs;clear be aE aN hs;go_wp2_with(fail);refine(dS A n c l s W bB.o hn).mono ?_;rintro e aP ⟨rfl,ar⟩;have bs:=ad (a8.trans ar);have G:=ad (bx.aj ar);rw[J];simp only[iU,rp];clear ar c3 aK;go_upto_region 2 with(fail);generalize hV:World.alloc _ _=V;have L:=bb hV;have a7:=ad (bs.trans L);have b8:=ad (G.aj L);have hC:=aT hV;obtain⟨a0,ap,aj⟩:=hC.two;obtain⟨a3,am,aJ⟩:=b8.two;clear hV L hC;have fin:∀X,X=((V.setCell ⟨w.heap.size,0,none⟩ (.string v.name)).setCell ⟨w.heap.size,1,none⟩ (.int .i64 v.kind)).setCell ⟨w.heap.size,2,none⟩ (.int .i64 v.n)->an X w.heap.size 147 #[.string v.name,.int .i64 v.kind,.int .i64 v.n]/\Ext w X:=by
  rintro X rfl;exact⟨((b8.aD 0 _).aD 1 _).aD 2 _,((a7.setCell (.inr (Lb _)) _).setCell (.inr (Lb _)) _).setCell (.inr (Lb _)) _⟩
 have d:=ad fin;clear fin;obtain⟨bd,cY,fW⟩:=v;simp only at *;rcases ai with rfl|rfl
 all_goals
  go_wp2;generalize hX:World.setCell _ _ _=X;obtain⟨bW,bu⟩:=d.o X hX.symm;obtain⟨e0,bk,a5⟩:=bW.two;clear a0 ap aj a3 am aJ;refine LK (v:=.agg #[.string bd,.int .i64 _,.int .i64 fW]) (by simp[results,Tryz.results134,go_sem,e0];rfl) rfl ?_;exact⟨rfl,bu⟩
def fO(l:List dG):VE->Prop
 | .num _=>True
 | .gT s=>∃v,dv l s=some v/\(v.kind=1\/v.kind=4)
 | .loc _=>False
 | .iz _=>False
 | .un op x=>(op=3\/op=4)/\fO l x
 | .bin op x y=>(5<=op/\op<=17)/\fO l x/\fO l y
theorem xM(x:VE):x.args.length<=2:=by cases x<;>simp[VE.args]
def pt(l:List dG)(x:VE):Prop:=∀(g:Nat) (st op n:Int) (s:ByteArray) (A:LP) (m c:Nat) (w:World),tI w g l->(bf x).rep w (au w) [.int .i64 op,.int .i64 n,.string s,.slice A m c]->
 Calls prog 133 #[.pointer (some ⟨g,0,none⟩),.agg #[.int .i64 op,.int .i64 n,.string s,.slice A m c],.int .i64 st] w λr ac=>
  ∃(o a5:Int) (a7:ByteArray) (I:LP) (fV aA:Nat),r=.returned (.agg #[.int .i64 o,.int .i64 a5,.string a7,.slice I fV aA])/\(bf (bC l x)).rep ac (fresh w ac) [.int .i64 o,.int .i64 a5,.string a7,.slice I fV aA]/\Ext w ac
abbrev Kr(B:Nat)(wr:World)(v:Value):Nat->Prop:=λb=>B<=b/\b<wr.heap.size/\v.ownBlock≠some b
structure zr(w wr:World)(l:List dG)(x:VE)(A:LP)(m c k:Nat)(I:LP)(aA:Nat)(xs:List Value):Prop where
 ext:Ext w wr
 b4:an wr w.heap.size 56 #[.int .i64 x.aZ,.int .i64 x.numOf,.string x.bk,.slice A m c]
 b6:an wr (w.heap.size+1) 56 #[.int .i64 0,.int .i64 0,.string ⟨#[]⟩,.slice none 0 0]
 b8:an wr (w.heap.size+2) 56 #[.int .i64 x.aZ,.int .i64 x.numOf,.string ⟨#[]⟩,.slice I k aA]
 own:wr.ownsRow (w.heap.size+3) 56 4 (.slice I k aA) k xs
 aJ:D.aJ wr (Kr (w.heap.size+3) wr (.slice I k aA)) ((x.args.take k).map λy=>bf (bC l y)) xs
theorem zr.next{w wr aV:World}{x y:VE}{m c:Nat}{I ck:LP}{aA c3:Nat}{a2:List Value}(h:zr w wr l x A m c k I aA xs)(a4:x.args[k]?=some y)
  (he:Ext wr aP) (aQ:(bf (bC l y)).rep aP (fresh wr aP) a2) (ax:aV.ownsRow (w.heap.size+3) 56 4 (.slice ck (k+1) c3) (k+1) (xs++a2)) (aK:aP.grownBy aV (Value.slice I k aA).ownBlock)
  (O:(Value.slice ck (k+1) c3).ownBlock=(Value.slice I k aA).ownBlock\/(Value.slice ck (k+1) c3).ownBlock=some (aP.heap.size+1)) (hX:aV.setCell ⟨w.heap.size+2,3,none⟩ (.slice ck (k+1) c3)=X) :
  zr w X l x A m c (k+1) ck c3 (xs++a2):=by
 have aw:∀g,(Value.slice I k aA).ownBlock=some g->w.heap.size+3<=g/\g<wr.heap.size:=λg aK=>h.own.lt g aK;have d:=h.b8.lt;have e1:=he.size;have e2:=aK.size;have b1:=dj hX;have a:∀b,b<aP.heap.size->b≠w.heap.size+2->some b≠(Value.slice I k aA).ownBlock->X.heap[b]?=aP.heap[b]?:=λb ae aD aU=>(b1.block b ab aD).trans (aK.block b ae aU);have a6:∀b,b<w.heap.size+3->some b≠(Value.slice I k aA).ownBlock:=λb O he=>by have:=aw b he.symm;omega
 have ci:∀b,b<wr.heap.size->b≠w.heap.size+2->some b≠(Value.slice I k aA).ownBlock->X.heap[b]?=wr.heap[b]?:=λb ae aD aU=>(a b ab aD aU).trans (he.block b ae λh=>h);have bI:X.heap.size=aV.heap.size:=by rw[<-hX];simp
 refine⟨?_,?_,?_,?_,?_,?_⟩
 .refine⟨?_,?_,?_,by have:=h.ext.size;omega,λb O _=>?_⟩
  .exact b1.os.trans (aK.os.trans (he.os.trans h.ext.os))
  .exact b1.tape.trans (aK.tape.trans (he.tape.trans h.ext.tape))
  .exact b1.output.trans (aK.output.trans (he.output.trans h.ext.output))
  .have:=h.ext.size;exact(ci b ab ab (a6 b ab)).trans (h.ext.block b O λh=>h)
 .exact(ci _ ab ab (a6 _ ab)).trans h.b4
 .exact(ci _ ab ab (a6 _ ab)).trans h.b6
 .have cD:an aV (w.heap.size+2) 56 #[.int .i64 x.aZ,.int .i64 x.numOf,.string ⟨#[]⟩,.slice I k aA]:=(h.b8.aj he).grown aK (a6 _ ab);rw[<-hX];exact cD.aD 3 _
 .refine⟨ax.1,?_⟩;rcases ax.2 with aD|⟨g,cap,cur,bD,j,aI,rest⟩
  .exact .inl aD
  .exact .inr ⟨g,cap,cur,bD,j,(b1.block g (Array.getElem?_eq_some_iff.1 aI).1 ab).trans aI,rest⟩
 .rw[List.take_add_one,a4,Li];refine D.cH ?_ ?_
  .refine D.bQ (λb aY=>⟨aY.1,by have:=aY.2.1;omega,λhc=>?_⟩) _ _ (D.bP (λb aY=>ci b aY.2.1 (aC aY.1) λhe=>aY.2.2 he.symm) _ _ h.aJ);rcases O with O|O
   .rw[O] at hc;exact aY.2.2 hc
   .rw[O] at hc;injection hc with hc;have:=aY.2.1;omega
  .simp only[Option.toList_some,Lh,Ly];rw[D.bo];refine D.aE (λb aY=>⟨by have:=aY.1;omega,by have:=aY.2;omega,λhc=>?_⟩) _ _ (D.aP (λb aY=>a b aY.2 (aC aY.1) λhe=>by have:=(aw b he.symm).2;have:=aY.1;omega) _ _ aQ);rcases O with O|O
   .rw[O] at hc;have:=(aw b hc).2;have:=aY.1;omega
   .rw[O] at hc;injection hc with hc;have:=aY.2;omega
theorem wS(l:List dG)(x:VE)(h:(∃op y,x=.un op y)\/∃op y z,x=.bin op y z):(bC l x).aZ=x.aZ/\(bC l x).numOf=x.numOf/\(bC l x).bk=⟨#[]⟩/\(bC l x).args=x.args.map (bC l):=by
 rcases h with⟨op,y,rfl⟩|⟨op,y,z,rfl⟩<;>exact⟨rfl,rfl,rfl,rfl⟩
theorem xV{w:World}{g:Nat}{bz:Value}{cs:Array Value}(hs:cs.size=4)(aN:an V g 56 cs)(aE:Ext w V)(aK:w.heap.size<=g)(hX:(((V.setCell ⟨g,0,none⟩ v0).setCell ⟨g,1,none⟩ v1).setCell ⟨g,2,none⟩ v2).setCell ⟨g,3,none⟩ bz=X):
  an X g 56 #[v0,v1,v2,bz]/\Ext w X/\Fr (λb=>b=g) V X:=by
 subst hX;refine⟨?_,(((aE.setCell (.inr aK) _).setCell (.inr aK) _).setCell (.inr aK) _).setCell (.inr aK) _,((((Fr.refl (λb=>b=g) V).setCell (.inl rfl) _).setCell (.inl rfl) _).setCell (.inl rfl) _).setCell (.inl rfl) _⟩;have:=(((aN.aD 0 v0).aD 1 v1).aD 2 v2).aD 3 bz
 match cs,hs with
 | ⟨[c0,c1,c2,c3]⟩,_=>exact this
namespace Bk
theorem pA(h:p:=by
 have ay:m<=2:=by rw[<-hs.1,Lf];exact xM x
 have cf:x.args.length=m:=by rw[<-hs.1,Lf]
 obtain⟨dp,bN,bB,ct⟩:=iR cf bo hs ao;have cb:=ad (wS l x r);clear aQ ao bo hs cf r;go_enter func133,ntmps133;go_upto_region 1 with(fail);generalize be:World.alloc _ _=W;have aE:=im be;have bK:=fU be;have a6:=fL be;have cE:W.heap.size=w.heap.size+2:=by rw[<-be];simp
 clear be;obtain⟨a0,ap,aj⟩:=bK.two;go_upto_region 7 with(fail);generalize hV:World.alloc _ _=V;have L:=bb hV;have hC:an V (w.heap.size+2) 56 #[.int .i64 x.aZ,.int .i64 x.numOf,.string ⟨#[]⟩,.slice none 0 0]:=hV▸an.hY _ _ _ cE.symm;have HA:=ad (show zr w V l x A m c 0 none 0 [] from ⟨aE.trans L,bK.aj L,a6.aj L,hC,⟨by simp,.inl ⟨rfl,rfl⟩⟩,by simp only[List.take_zero,Ly,D.aJ]⟩);clear hV L hC bK a6 aE cE a0 ap aj;go_wp2;go_loopw [9] (λbc wr=>∃(k:Nat) (I:LP) (aA:Nat) (xs:List Value),k<=m/\bc=.int .i64 k/\zr w wr l x A m c k I aA xs) (λbc _=>m - (intOf bc).toNat)
 case atStart=>exact⟨0,none,0,[],ab,rfl,HA.o⟩
 case round=>
  obtain⟨k,I,aA,xs,ai,rfl,bp⟩:=hrel;clear HA;have HA:=ad bp;obtain⟨a0,ap,aj⟩:=bp.b4.two;obtain⟨a3,am,aJ⟩:=bp.b6.two;obtain⟨e0,bk,a5⟩:=bp.b8.two;by_cases aw:k<m
  .obtain⟨b,o,y,cs,rfl,O,a4,bS,bi,Z⟩:=(bB.on (Fr.ext bp.ext)).gZ dg aw
   match cs,bi with
   | [cu,cr,br,aa],_=>
   have c0:=Z 0 cu rfl;have c1:=Z 1 cr rfl;have c2:=Z 2 br rfl;have c3:=Z 3 aa rfl;simp only[Ll] at c0;have aX:b<wr.heap.size:=O;obtain⟨B,bG,fk,e,cC,b4⟩:=aW.1 bS;simp only[List.cons.injEq,and_true] at e;obtain⟨rfl,rfl,rfl,rfl⟩:=e;obtain⟨bP,J⟩:=aM a4 bS;have bQ:=ad (ct.o k y a4);have F:=ad (bN.on bp.ext);clear a4 bS b4 Z O bp a3 am aJ;go_wp2;refine eU (λ_=>False) [(0,3),(1,0),(2,3),(3,3),(4,0),(5,3),(6,3),(7,0),(8,3),(9,1),(10,1),(11,2),(12,3),(13,2)] ?_;refine pf ?_;refine ph ?_
   iterate 2 refine pf ?_
   refine ph ?_
   iterate 2 refine pf ?_
   refine ph ?_;refine pf ?_;refine aO rfl (λK hK=>?_);go_simp;refine(bQ.o g st _ _ _ _ _ _ _ (F.on LL.drew) (D.on J.o (Fr.ext LL.drew))).mono ?_;rintro e aP ⟨o1,n1,s1,cy,c4,cS,rfl,cN,ar⟩;refine ei hK (ar) ?_;clear hK K;have aF:Ext wr aP:=Fr.aQ ar;have H:(bf (bC l y)).rep aP (fresh wr aP) [.int .i64 o1,.int .i64 n1,.string s1,.slice cy c4 cS]:=cN;have au:=ah aF H;refine r9 ?_;refine aq rfl (λK hK=>?_);rw[if_pos (by rfl)];have cD:w.heap.size+3<=aP.heap.size:=by have:=HA.b8.lt;have:=aF.size;omega
   refine yo _ pI (.tmp 40) (.tmp 49) (by rfl) (w.heap.size+3) (.slice I k aA) k xs _ (by rfl) (bT HA.own (Fr.ext aF)) (by rfl) (by rfl) (by simp[Value.oneCell']) ab ab cD ?_;intro v2 aV af al E;obtain⟨ck,bv,rfl,aS,_⟩:=bx af;have i:an aV (w.heap.size+2) 56 _:=(HA.b8.aj aF).grown al (λhe=>by have:=HA.own.lt _ he.symm;omega);have bY:=aL af al E;clear af al E cN H ar a0 ap aj e0 bk a5 c0 c1 c2 c3 aX;obtain⟨e0,bk,a5⟩:=i.two;refine eL hK ?_;clear hK K;refine pf ?_;refine aq rfl (λK hK=>?_);go_simp;refine eL hK ?_;clear hK K;refine aB ?_;clear e0 bk a5;generalize hX:World.setCell aV _ _=X;have bA:=ad (HA.next bP.o au.1 au.2 bY.1 bY.2.1 bY.2.2 hX);clear hX i aF;go_wp2;go_roundw
   case rel=>exact⟨k+1,ck,bv,_,ab,by go_num,bA.o⟩
   case measure=>exact az
  .obtain rfl:m=k:=ab;clear bp;go_wp2;generalize hX:World.setCell _ _ _=X;obtain⟨bW,bu,cl⟩:=xV rfl HA.b6 HA.ext (Nat.le_succ _) hX;obtain⟨bE,bg,bh⟩:=bW.two;clear a0 ap aj a3 am aJ e0 bk a5;refine LK (v:=.agg #[.int .i64 x.aZ,.int .i64 x.numOf,.string ⟨#[]⟩,.slice I m aA]) (by simp[results,Tryz.results133,go_sem,bE]) rfl ?_;refine⟨_,_,_,_,_,_,rfl,?_,bu⟩;obtain⟨ae,aD,aU,a1⟩:=cb.o;have ax:=HA.own;obtain⟨_,_,bD,hle,_⟩:=bx ax;injection bD with d5 u hv3;have bO:=HA.aJ;have aw:∀g,(Value.slice I m aA).ownBlock=some g->w.heap.size+3<=g/\g<wr.heap.size:=λg aK=>ax.lt g aK;have bX:X.heap.size=wr.heap.size:=by rw[<-hX];simp
   rw[<-dp.o,List.take_length] at bO;refine aW.2 ⟨I,m,aA,by rw[ae,aD,aU],ab,?_⟩;rw[a1,List.map_map];have f:X.ownsRow (w.heap.size+3) 56 4 (.slice I m aA) m xs:=by
    refine⟨ax.1,?_⟩;rcases ax.2 with aD|⟨g,cap,cur,bD,j,aI,rest⟩
    .exact .inl aD
    .exact .inr ⟨g,cap,cur,bD,j,(cl.block g (Array.getElem?_eq_some_iff.1 aI).1 ab).trans aI,rest⟩
   refine Sl.qz f (D.bQ (λb aY=>⟨by have:=aY.1;omega,by have:=aY.2.1;omega⟩) _ _ (D.bP (λb aY=>cl.block b aY.2.1 (aC aY.1)) _ _ bO)) (by rw[Lf];exact dp.o) (λg _ ae aD=>⟨ab,aD⟩)
 ):p:=h
end Bk
open Bk in
theorem rR(l:List dG)(x:VE)(r:(∃op y,x=.un op y)\/∃op y z,x=.bin op y z)(cp:(x.aZ == 2)=false)(ao:∀(k:Nat) (y:VE),x.args[k]?=some y->pt l y):pt l x:=by
 intro g st op n s A m c w bo aQ;exact pz
def VE.leaf:VE->Prop
 | .un _ _=>False
 | .bin _ _ _=>False
 | _=>True
namespace Bl
theorem pA(h:p:=by
 have ay:m<=2:=by rw[<-hs.1,Lf];exact xM x
 have cf:x.args.length=m:=by rw[<-hs.1,Lf]
 obtain⟨bN,bB,ct⟩:=eG bo hs ao;clear aQ ao bo hs;go_enter func133,ntmps133;go_upto_region 1 with(fail);generalize be:World.alloc _ _=W;have aE:=im be;have bK:=fU be;have a6:=fL be;have cE:W.heap.size=w.heap.size+2:=by rw[<-be];simp
 clear be;obtain⟨a8,T,bl⟩:=eG aE bK a6;obtain⟨a0,ap,aj⟩:=bK.two;obtain⟨a3,am,aJ⟩:=a6.two;clear aE bK a6
 cases x with
 | loc j=>exact hx.elim
 | iz j=>exact hx.elim
 | gT s=>
  obtain⟨v,J,ai⟩:=hx;have d:=ad (show bC l (.gT s)=if v.kind=1 then .iz v.n else .loc v.n by unfold bC;simp only[J]);simp only[VE.aZ,VE.numOf,VE.bk] at *;go_wp2_with(fail);refine(nj g l s v J ai st W (bN.on a8.o)).mono ?_;rintro e aP ⟨rfl,ar⟩;have bs:=ad (a8.trans ar);have i:=ad (bl.aj ar);clear ar a0 ap aj a3 am aJ J;obtain⟨bd,cY,fW⟩:=v;simp only[rp] at *;go_upto_region 3 with(fail);generalize hV:World.alloc _ _=V;have L:=bb hV;have a7:=ad (bs.trans L);have u:=ad (i.aj L);have hC:=aT hV;obtain⟨a0,ap,aj⟩:=hC.two;obtain⟨a3,am,aJ⟩:=u.two;clear hV L hC;rcases ai with rfl|rfl
  .go_wp2;generalize hX:World.setCell _ _ _=X;obtain⟨bW,bu,_⟩:=xV rfl u.o a7.o (Nat.le_succ _) hX;obtain⟨e0,bk,a5⟩:=bW.two;clear a0 ap aj a3 am aJ;refine LK (v:=.agg #[.int .i64 19,.int .i64 fW,.string ⟨#[]⟩,.slice none 0 0]) (by simp[results,Tryz.results133,go_sem,e0]) rfl ?_;refine⟨_,_,_,_,_,_,rfl,?_,bu⟩;rw[show bC l (.gT s)=.iz fW by simpa using d.o];exact aW.2 ⟨none,0,0,rfl,Lb _,Sl.bN _⟩
  .go_wp2;generalize hX:World.setCell _ _ _=X;obtain⟨bW,bu,_⟩:=xV rfl u.o a7.o (Nat.le_succ _) hX;obtain⟨e0,bk,a5⟩:=bW.two;clear a0 ap aj a3 am aJ;refine LK (v:=.agg #[.int .i64 18,.int .i64 fW,.string ⟨#[]⟩,.slice none 0 0]) (by simp[results,Tryz.results133,go_sem,e0]) rfl ?_;refine⟨_,_,_,_,_,_,rfl,?_,bu⟩;rw[show bC l (.gT s)=.loc fW by simpa using d.o]
   exact aW.2 ⟨none,0,0,rfl,Lb _,Sl.bN _⟩
 | num n=>
  obtain rfl:0=m:=cf;simp only[VE.aZ,VE.numOf,VE.bk] at *;go_upto_region 7 with(fail);generalize hV:World.alloc _ _=V;have L:=bb hV;have a7:=ad (a8.trans L);have u:=ad (bl.aj L);have hC:an V (w.heap.size+2) 56 #[.int .i64 1,.int .i64 n,.string ⟨#[]⟩,.slice none 0 0]:=hV▸an.hY _ _ _ cE.symm;have f:=T.aj L;clear a0 ap aj a3 am aJ;obtain⟨c0,cK,cI⟩:=f.two;obtain⟨a0,ap,aj⟩:=hC.two;obtain⟨a3,am,aJ⟩:=u.two;clear hV L hC f;go_wp2;refine wp_loop_rounds 1 ?_;rw[rounds_succ];go_wp2;generalize hX:World.setCell _ _ _=X;obtain⟨bW,bu,_⟩:=xV rfl u.o a7.o (Nat.le_succ _) hX;obtain⟨e0,bk,a5⟩:=bW.two;clear a0 ap aj a3 am aJ;refine LK (v:=.agg #[.int .i64 1,.int .i64 n,.string ⟨#[]⟩,.slice none 0 0]) (by simp[results,Tryz.results133,go_sem,e0]) rfl ?_
  exact⟨_,_,_,_,_,_,rfl,aW.2 ⟨none,0,0,rfl,Lb _,Sl.bN _⟩,bu⟩
 | un op y=>exact a9.elim
 | bin op y z=>exact a9.elim
 ):p:=h
end Bl
open Bl in
theorem rS(l:List dG)(x:VE)(hx:fO l x)(a9:x.leaf)(ao:∀(k:Nat) (y:VE),x.args[k]?=some y->pt l y):pt l x:=by
 intro g st op n s A m c w bo aQ;exact pz
theorem lj(l:List dG)(x:VE)(hx:fO l x)(ao:∀(k:Nat) (y:VE),x.args[k]?=some y->pt l y):pt l x:=by
 cases x with
 | un op y=>exact rR l _ (.inl ⟨_,_,rfl⟩) (by rcases hx.1 with h|h<;>(show (op == 2)=false;rw[h];rfl)) ao
 | bin op y z=>exact rR l _ (.inr ⟨_,_,_,rfl⟩) (by have:=hx.1.1;show (op == 2)=false;simp;omega) ao
 | num n=>exact rS l _ hx trivial ao
 | gT n=>exact rS l _ hx trivial ao
 | loc j=>exact hx.elim
 | iz j=>exact hx.elim
theorem fZ(l:List dG):∀(x:VE),fO l x->pt l x
 | .num n,h=>lj l _ h λk y a4=>by simp[VE.args] at a4
 | .gT n,h=>lj l _ h λk y a4=>by simp[VE.args] at a4
 | .loc n,h=>h.elim
 | .iz n,h=>h.elim
 | .un op y,h=>lj l _ h λk z ba=>by
  match k,ba with
  | 0,ba=>simp[VE.args] at ba;subst ba;exact fZ l y h.2
 | .bin op x y,h=>lj l _ h λk z ba=>by
  match k,ba with
  | 0,ba=>simp[VE.args] at ba;subst ba;exact fZ l x h.2.1
  | 1,ba=>simp[VE.args] at ba;subst ba;exact fZ l y h.2.2
structure yr(w:World)(g:Nat)(M:List bF):Prop where
 lt:g<w.heap.size
 ex:∃A n c,n<=1000000/\w.cell? ⟨g,1,none⟩=some (.slice A n c)/\Sl w (au w) A n (M.map ek)
theorem yr.on{w ac:World}{g:Nat}{M:List bF}(h:yr w g M)(O:Ext w ac):yr ac g M:=by
 exact CS
def qL(M:List bF)(l:List dG)(r:eN):Prop:=∃v,dv l r.name=some v/\
 ((v.kind=5/\r.idx=none)\/(v.kind=2/\∃m,0<=v.n/\M[v.n.toNat]?=some m/\(0<m.size->∃e,r.idx=some e/\fO l e)/\(¬0<m.size->r.idx=none)))
theorem eu{w:World}{p:bJ}:(ds p).rep w P cs↔∃A n c,cs=[.bool p.param,.int .i64 p.index,.slice A n c]/\n<=c/\Sl w P A n (p.at_.toList.map bf):=by
 unfold ds;rw[bB,fi];constructor
 .rintro⟨y,rfl,h⟩;rw[a5] at h;obtain⟨br,rfl,h⟩:=h;rw[aF] at h;obtain⟨A,n,c,aa,rfl,hc,hs,aU⟩:=h;exact xE
 .rintro⟨A,n,c,rfl,hc,hs⟩;exact⟨_,rfl,a5.2 ⟨_,rfl,aF.2 ⟨A,n,c,[],rfl,hc,hs,aK.2 rfl⟩⟩⟩
theorem p5{w:World}{g:Nat}{c0 c1 c2:Value}(aN:an V g t #[c0,c1,c2])(aE:Ext w V)(aK:w.heap.size<=g)(hX:((V.setCell ⟨g,0,none⟩ v0).setCell ⟨g,1,none⟩ v1).setCell ⟨g,2,none⟩ v2=X):
  an X g t #[v0,v1,v2]/\Ext w X/\Fr (λb=>b=g) V X:=by
 subst hX;exact⟨((aN.aD 0 v0).aD 1 v1).aD 2 v2,((aE.setCell (.inr aK) _).setCell (.inr aK) _).setCell (.inr aK) _,(((Fr.refl (λb=>b=g) V).setCell (.inl rfl) _).setCell (.inl rfl) _).setCell (.inl rfl) _⟩
def G8(w:World)(p:bJ)(e:Ending)(ac:World):Prop:=
 ∃(b:Bool) (i:Int) (A:LP) (n c:Nat),e=.returned (.agg #[.bool b,.int .i64 i,.slice A n c])/\(ds p).rep ac (fresh w ac) [.bool b,.int .i64 i,.slice A n c]/\Ext w ac
def vt:Prop:=∀(g:Nat) (l:List dG) (M:List bF) (r:eN),qL M l r->∀(st:Int) (s:ByteArray) (A:LP) (n c:Nat) (w:World),tI w g l->yr w g M->(kJ r).rep w (au w) [.string s,.slice A n c]->
  Calls prog 136 #[.pointer (some ⟨g,0,none⟩),.agg #[.string s,.slice A n c],.int .i64 st] w (G8 w (mv l r))
theorem DS{w ac:World}{B e z:Nat}{v:Value}(h:w.ownsRow B e z v n xs)(ai:∀b,B<=b->b<w.heap.size->ac.heap[b]?=w.heap[b]?):ac.ownsRow B e z v n xs:=by
 refine⟨h.1,?_⟩;rcases h.2 with aD|⟨aw,cap,cur,bD,j,aI,rest⟩
 .exact .inl aD
 .exact .inr ⟨aw,cap,cur,bD,j,(ai aw j (Array.getElem?_eq_some_iff.1 aI).1).trans aI,rest⟩
namespace Cg
theorem jU(h:p:=by
 clear bL ay az;generalize bP:World.setCell aV _ _=cA;have bO:=dj bP;have bU:an cA X.heap.size 58 #[.bool false,.int .i64 mi,.slice ck 1 bv]:=bP▸a9.aD 2 _;have U:=N.on bO ab;have bi:=j.on bO ab;have f:=ad bO;clear bP a9 N j bO;obtain⟨a0,ap,aj⟩:=bi.two;obtain⟨bL,ay,az⟩:=bU.two;obtain⟨d6,dw,dx⟩:=U.two;go_wp2;rw[rounds_succ];go_wp2;generalize b7:World.setCell _ _ _=Y;obtain⟨af,aF,a2⟩:=bY.o;have b5:=a2.size;have aZ:=aF.size;have br:=f.size;have ct:Ext w cA:=⟨f.os.trans ((bX.trans (aF.trans a2)).os),f.tape.trans ((bX.trans (aF.trans a2)).tape),f.output.trans ((bX.trans (aF.trans a2)).output),Ls (bX.trans (aF.trans a2)).size br,
  λk ai _=>(f.block k (Lc ai (bX.trans (aF.trans a2)).size) ab).trans ((bX.trans (aF.trans a2)).block k ai λh=>h)⟩
 obtain⟨bz,bA,bj⟩:=p5 U ct (Nat.le_succ _) b7;obtain⟨bE,bg,bh⟩:=bz.two;refine LK (v:=.agg #[.bool false,.int .i64 mi,.slice ck 1 bv]) (by simp[results,Tryz.results136,go_sem,bE]) rfl ?_;refine⟨_,_,_,_,_,rfl,?_,bA⟩;rw[bk.o];refine eu.2 ⟨ck,1,bv,rfl,ab,?_⟩;simp only[hx,Option.map_some,Option.toList_some,Lh,Ly];have cw:=bj.size;have fK:=cQ.lt;have cn:∀b,dH.heap.size<=b->b<aV.heap.size->Y.heap[b]?=aV.heap[b]?:=λb ae aD=>(bj.block b ab ab).trans (f.block b aD ab);have G:=DS af cn;simp only[Lt,LD] at G;refine Sl.qz G ?_ rfl (λaw _ ae aD=>⟨ab,aD⟩);rw[D.bo];exact D.aE (λb aY=>⟨by have:=aY.1;omega,by have:=aY.2;omega⟩) _ _ (D.aP (λb aY=>(cn b aY.1 (aC aY.2)).trans (a2.block b aY.2 λh=>h)) _ _ au.o)
 ):p:=h
theorem AI(h:p:=by
 refine dm rfl (by rfl) ?_
 try simp only[PU]
 refine dm rfl (by rfl) ?_
 try simp only[PU]
 refine ia rfl (by rfl) ?_
 try simp only[PU]
 refine dm rfl (by rfl) ?_
 try simp only[PU]
 iterate 2 refine pf ?_
 refine aB ?_;go_wp2;refine wp_loop_rounds 1 ?_;rw[rounds_succ];go_wp2;generalize b7:World.setCell _ _ _=Y;obtain⟨bz,bA,_⟩:=p5 bM.o bX.o (Nat.le_succ _) b7;obtain⟨bE,bg,bh⟩:=bz.two;clear b7;refine LK (v:=.agg #[.bool true,.int .i64 fW,.slice none 0 0]) (by simp[results,Tryz.results136,go_sem,bE]) rfl ?_;exact GI
 ):p:=h
theorem gA(h:p:=by
 refine tf ?_;refine cB ?_;generalize hX:World.setCell _ _ _=X;obtain⟨bw,bq,_⟩:=p5 bV bm a4 hX;have a7:=ad (a8.trans bq);have a1:=ad (T.aj bq);have u:=ad (bl.aj bq);clear hX a3 am aJ bV bm a4;obtain⟨a3,am,aJ⟩:=bw.two;go_upto_region 6 with(fail);generalize hV:World.alloc _ _=dH;have L:=bb hV;have cJ:=bw.aj L;have aG:=aT hV;have bX:=ad (a7.trans L);have ac:=a1.aj L;have bM:=ad (u.aj L);have bI:w.heap.size+2<=X.heap.size:=u.lt;obtain⟨bS,cQ⟩:=aM ac aG;clear hV L bw a3 am aJ;obtain⟨a3,am,aJ⟩:=cJ.two;obtain⟨a0,ap,aj⟩:=ac.two;obtain⟨bL,ay,az⟩:=aG.two;obtain⟨d6,dw,dx⟩:=bM.two;have bW:w.heap.size+2<=dH.heap.size:=ab;clear cJ ac aG;obtain⟨bd,cY,fW⟩:=v;simp only at *;rcases co.o with⟨cd,ak⟩|⟨aD,m,h0,hm,cW,bc⟩
 .subst cd;have cv:n=0:=by have:=bB.1;rw[ak] at this;exact this.symm
  subst cv;go_wp2;refine eU (λ_=>False) [(0,3),(1,0),(2,3),(3,3),(4,3),(5,3),(6,3),(7,3),(8,0),(9,3),(10,0),(11,3),(12,3),(13,0),(14,3),(15,3),(16,3)] ?_;refine pf ?_;refine ph ?_
  iterate 2 refine pf ?_
  refine dm rfl (by rfl) ?_;exact AH
 .subst aD;obtain⟨mi,rfl⟩:=Lg h0;rw[Lw] at hm;obtain⟨_,MA,mn,mc,eM,cq,F⟩:=dL.on bX.o;have cF:mi<mn:=by have:=(List.getElem?_eq_some_iff.1 hm).1;have:=F.1;rw[Lf] at this;omega
  obtain⟨hp,bp,fV,cs,rfl,b2,aR,bF,bD,aU⟩:=F.gZ (z:=3) (λ_=>rfl) cF;rw[hm] at aR;injection aR with aR;subst aR;obtain rfl:=e4.1 bF;have f2:=aU 2 _ rfl;have bn:hp<dH.heap.size:=b2;have al:g<dH.heap.size:=Lc bN.lt bX.size;clear F bD aU bF b2;by_cases ba:0<m.size
  .have bR:decide (m.size > 0)=true:=by simpa using ba
   obtain⟨x,hx,av⟩:=cW ba;have ah:=bB.on (Fr.ext bX.o);rw[hx] at ah;obtain rfl:1=n:=ah.1;obtain⟨b,o,bs,Z,bu,E,rfl,O,ax,e0,e1,e2,e3⟩:=Sl.DP ah (dg x);obtain⟨B,bG,fk,e,cC,b4⟩:=aW.1 ax;simp only[List.cons.injEq,and_true] at e;obtain⟨rfl,rfl,rfl,rfl⟩:=e;have aX:b<dH.heap.size:=O;have ag:=ad ax;have bQ:=ad (fZ l x av);have bT:=ad (bN.on bX.o);clear ax b4 O ah cW bc;go_wp2;refine eU (λ_=>False) [(0,3),(1,0),(2,3),(3,3),(4,3),(5,3),(6,3),(7,3),(8,0),(9,3),(10,0),(11,3),(12,3),(13,0),(14,3),(15,3),(16,3)] ?_;refine pf ?_;refine ph ?_
   iterate 6 refine pf ?_
   refine ph ?_;refine pf ?_;refine ph ?_
   iterate 2 refine pf ?_
   refine ph ?_
   iterate 3 refine pf ?_
   refine aB ?_;go_wp2;refine wp_loop_rounds 2 ?_;rw[rounds_succ];go_wp2;refine eU (λ_=>False) [(0,3),(1,0),(2,3),(3,3),(4,0),(5,3),(6,3),(7,0),(8,3),(9,1),(10,1),(11,2),(12,3),(13,2)] ?_;refine pf ?_;refine bH (v:=?_) rfl (by rfl) (λV hV=>?_) ?_;rotate_left
   .obtain⟨hVc,hVf⟩:=Fr.jq hV
    (go_simp<;>with_reducible rfl)
   try simp only[PU]
   iterate 2 refine pf ?_
   refine bH (v:=?_) rfl (by rfl) (λV hV=>?_) ?_;rotate_left
   .obtain⟨hVc,hVf⟩:=Fr.jq hV
    (go_simp<;>with_reducible rfl)
   try simp only[PU]
   iterate 2 refine pf ?_
   refine bH (v:=?_) rfl (by rfl) (λV hV=>?_) ?_;rotate_left
   .obtain⟨hVc,hVf⟩:=Fr.jq hV
    (go_simp<;>with_reducible rfl)
   try simp only[PU]
   refine pf ?_;refine aO rfl (λK hK=>?_);go_simp;refine(bQ.o g st _ _ _ _ _ _ _ (bT.on LL.drew.drew) (D.on ag.o (Fr.ext LL.drew.drew))).mono ?_;rintro e aP ⟨o1,n1,s1,cy,c4,cS,rfl,cN,ar⟩;refine ei hK (ar) ?_;clear hK K;have aF:Ext dH aP:=Fr.aQ (Fr.aQ ar);have H:(bf (bC l x)).rep aP (fresh dH aP) [.int .i64 o1,.int .i64 n1,.string s1,.slice cy c4 cS]:=cN;have au:=ad H;refine r9 ?_;refine aq rfl (λK hK=>?_);rw[if_pos (by rfl)];have aZ:=aF.size;refine yo _ pI (.tmp 79) (.tmp 88) (by rfl) dH.heap.size (.slice none 0 0) 0 [] _ (by rfl) ⟨by simp,.inl ⟨rfl,rfl⟩⟩ (by rfl) (by rfl) (by simp[Value.oneCell']) ab ab aZ ?_;intro v2 aV af aH _;obtain⟨ck,bv,rfl,aS,_⟩:=bx af;have a2:Ext aP aV:=LL.grown aH (by simp[Value.ownBlock]);have a9:=(cQ.aj aF).aj a2;have N:=(bM.aj aF).aj a2;have j:=(bS.aj aF).aj a2;have bY:=aL af aF a2;clear af aH cN H ar aF a2 a0 ap aj a3 am aJ bL ay az d6 dw dx e0 e1 e2 e3 aX f2 bn al cq;obtain⟨bL,ay,az⟩:=a9.two;exact l2
  .have bR:decide (m.size > 0)=false:=by simp;omega
   have ak:=bc ab;have cv:n=0:=by have:=bB.1;rw[ak] at this;exact this.symm
   subst cv;clear cW bc;go_wp2;refine eU (λ_=>False) [(0,3),(1,0),(2,3),(3,3),(4,3),(5,3),(6,3),(7,3),(8,0),(9,3),(10,0),(11,3),(12,3),(13,0),(14,3),(15,3),(16,3)] ?_;refine pf ?_;refine ph ?_
   iterate 6 refine pf ?_
   refine ph ?_;refine pf ?_;refine ph ?_
   iterate 2 refine pf ?_
   refine ph ?_
   iterate 3 refine pf ?_
   refine aB ?_;go_wp2;refine wp_loop_rounds 1 ?_;rw[rounds_succ];go_wp2;generalize b7:World.setCell _ _ _=Y;obtain⟨bz,bA,_⟩:=p5 bM.o bX.o (Nat.le_succ _) b7;obtain⟨bE,bg,bh⟩:=bz.two;clear b7;refine LK (v:=.agg #[.bool false,.int .i64 mi,.slice none 0 0]) (by simp[results,Tryz.results136,go_sem,bE]) rfl ?_;exact GI
 ):p:=h
theorem vP(h:p:=by
 refine(dS S ln lc l r.name V.drew (bZ.on (Fr.ext bm.drew)) dn).mono ?_;rintro e aP ⟨rfl,ar⟩;rw[b0.o];simp only[iU,rp];refine eL hK ?_;clear hK K
 iterate 3 refine tf ?_
 have ca:=aN.aj (Fr.aQ ar);have aF:=bm.trans (Fr.aQ ar);clear aN bm ar;exact key W.heap.size aP ⟨aF,ca,Lb _⟩
 ):p:=h
theorem AB(h:p:=by
 refine lE (P:=?P1) (ops:=?o1) (Q:=?q1) (R:=?r1) (tails:=?t1) (rest:=.pick [11] (λ_=>.free 12 (.stop))) (aa:=?aa) (C:=λdf V=>Ext W V/\an V df 147 #[.string ⟨#[]⟩,.int .i64 0,.int .i64 0]/\W.heap.size<=df) (λkey=>?main) ?key
 case main=>
  refine bt ?_ ?_
  ·
   refine cj rfl (λK hK=>?_) rfl;go_simp;refine(dS S ln lc l r.name W.drew (bZ.on (Fr.ext LL.drew)) dn).mono ?_;rintro e aP ⟨rfl,ar⟩;rw[b0.o];simp only[iU,rp];refine eL hK ?_;clear hK K
   iterate 3 refine tf ?_
   refine ao ?_;refine fj ?_;generalize hV:World.alloc _ _=V;have aN:=aT hV;have bm:Ext W V:=hV▸(Fr.aQ ar).alloc _;exact CU
  ·
   exact vO
 case key=>
  rintro df V ⟨bm,bV,a4⟩;have cE:=bl.lt;have bJ:=T.lt;obtain⟨a3,am,aJ⟩:=bV.two;clear a0 ap aj cI;exact hk
 ):p:=h
end Cg
open Cg in
theorem FB:vt:=by
 intro g l M r cc st s A n c w bo hM aQ;obtain⟨I,a5,aA,e,aI,hs⟩:=jC.1 aQ;simp only[List.cons.injEq,Value.string.injEq,Value.slice.injEq,and_true] at e;obtain⟨rfl,rfl,rfl,rfl⟩:=e;obtain⟨v,J,ai⟩:=cc;have co:=ad ai;have bk:=ad (show mv l r=⟨v.kind == 5,v.n,r.idx.map (bC l)⟩ by unfold mv;simp only[J]);obtain⟨b0,bN,dL,bB⟩:=iR J bo hM hs;clear aQ hs bo hM ai J;go_enter func136,ntmps136;go_wp2;generalize be:World.alloc _ _=W;have aE:=im be;have bK:=fU be;have a6:=fL be;clear be;obtain⟨a8,T,bl⟩:=eG aE bK a6;obtain⟨aK,S,ln,lc,dn,cI,y⟩:=bN.on aE;have bZ:=ad y;obtain⟨a0,ap,aj⟩:=bK.two;clear aE bK a6 y;exact AA
end Go.Proofs.YtflecliffjbleaaGreat
