/- Part 15 of the proof. No condition of its own. -/
import Derived.Test.YtflecliffjbleaaGreatS09
namespace Go.Proofs.YtflecliffjbleaaGreat
open Go.RowKit Go.Proofs.Tryz
set_option maxRecDepth 1000000
set_option maxHeartbeats 25600000
set_option linter.unusedVariables false
variable{s:ByteArray}{d:D}{cs xs:List Value}{c:List ay}{l:List dQ}{k n:Nat}{P:Nat->Prop}{A:Mk}{p:Prop}{t:TypeId}{v0 v1 v2:Value}{V X aP:World}{e:dQ}
theorem g0{w:World}{l:List D}:D.aO w P (d::l) cs↔∃x y,cs=x++y/\d.rep w P x/\D.aO w P l y:=by simp only[D.aO]
theorem jH{w:World}{r:eW}:(kL r).rep w P cs↔∃A n c,cs=[.string r.name,.slice A n c]/\n<=c/\Sl w P A n (r.idx.toList.map bk):=by
 unfold kL;rw[bJ,ct];constructor
 .rintro⟨y,rfl,h⟩;rw[aL] at h;obtain⟨A,n,c,bv,rfl,hc,hs,a1⟩:=h;exact xR
 .rintro⟨A,n,c,rfl,hc,hs⟩;exact vH
def bY(e:dQ):D:=.st [.s e.name,.i e.kind,.i e.n]
theorem yV(e:dQ):(bY e).sz=3:=rfl
theorem iH{w:World}:(bY e).rep w P cs↔cs=[.string e.name,.int .i64 e.kind,.int .i64 e.n]:=by
 unfold bY;rw[bJ,ct];constructor
 .rintro⟨y,rfl,h⟩;rw[bf] at h;exact z7
 .rintro rfl;exact⟨_,rfl,bf.2 ⟨_,rfl,bf.2 ⟨_,rfl,aQ.2 rfl⟩⟩⟩
theorem mR(x:ay):(ep x).sz=12:=by
 have ac:(oS x.expr).sz=4:=by
  cases x.expr with
  | none=>rfl
  | some x=>exact db x
 unfold ep ds;simp only[D.sz,D.zy,ac]
def Ms(g:Nat)(cv sv:Value):Nat->Prop:=λb=>b=g\/cv.ownBlock=some b\/sv.ownBlock=some b
structure Mv(g:Nat)(cv sv:Value)(w:World)(a f:Value)(ab:World):Prop where
 fr:Fr (Ms g cv sv) w ab
 own:∀b,b<w.heap.size->Ms g a f b->Ms g cv sv b
section
variable {g:Nat} {cv sv a f i m:Value} {w ab aW:World}
theorem Mv.refl(g:Nat)(cv sv:Value)(w:World):Mv g cv sv w cv sv w:=⟨Mg,λ_ _ h=>h⟩
theorem Mv.trans(h:Mv g cv sv w a f ab)(k:Mv g a f ab i m aW):Mv g cv sv w i m aW:=by
 refine⟨⟨k.fr.os.trans h.fr.os,k.fr.tape.trans h.fr.tape,k.fr.output.trans h.fr.output,LU h.fr.size k.fr.size,λb O hn=>?_⟩,λb O hm=>?_⟩
 .exact(k.fr.block b (LC O h.fr.size) λhm=>hn (h.own b O hm)).trans (h.fr.block b O hn)
 .exact h.own b O (k.own b (LC O h.fr.size) hm)
theorem Mv.hv(h:Ext w ab):Mv g cv sv w cv sv ab:=⟨h.mono λ_ h=>h.elim,λ_ _ h=>h⟩
theorem Mv.JA(h:Fr (Ms g cv sv) w ab):Mv g cv sv w cv sv ab:=⟨h,λ_ _ h=>h⟩
theorem Mv.JB(h:Mv g cv sv w a f ab):∀b,off (Ms g cv sv) w b->off (Ms g a f) ab b:=
 λb O=>⟨LC O.1 h.fr.size,λhm=>O.2 (h.own b O.1 hm)⟩
theorem D.cT(h:d.rep w (off (Ms g cv sv) w) cs)(O:Mv g cv sv w a f ab):d.rep ab (off (Ms g a f) ab) cs:=
 D.aK O.JB _ _ (D.aP (λb ap=>O.fr.block b ap.1 ap.2) _ _ h)
theorem Sl.cT{l:List D}(h:Sl w (off (Ms g cv sv) w) A n l)(O:Mv g cv sv w a f ab):Sl ab (off (Ms g a f) ab) A n l:=
 (h.ak (λb ap=>O.fr.block b ap.1 ap.2)).mono O.JB
end
theorem sd{w:World}{P:Nat->Prop}(t:Int):∀(code:List ay) (xs:List Value) (b:Nat),D.aO w P (code.map ep) xs->b<code.length->D.aO w P ((gm code b t).map ep) (xs.set (b*12+1) (.int .i64 t))
 | [],xs,b,h,O=>by simp at O
 | x::code,xs,0,h,O=>by
  rw[LI] at h;obtain⟨j,d,rfl,hx,bb⟩:=g0.1 h;have hl:=(D.lG _ _ hx).trans (mR x);have e:gm (x::code) 0 t={x with target:=t}::code:=rfl;rw[e,LI,List.set_append_left _ _ ad];refine g0.2 ⟨_,_,rfl,?_,bb⟩;unfold ep at hx ⊢;rw[bJ,bf] at hx ⊢;obtain⟨y,rfl,hx⟩:=hx;rw[bf] at hx;obtain⟨cm,rfl,hx⟩:=hx
  exact⟨_,rfl,bf.2 ⟨_,rfl,hx⟩⟩
 | x::code,xs,b+1,h,O=>by
  rw[LI] at h;obtain⟨j,d,rfl,hx,bb⟩:=g0.1 h;have hl:=(D.lG _ _ hx).trans (mR x);have aq:=sd t code d b bb (by simpa using O);have e:gm (x::code) (b+1) t=x::gm code b t:=rfl;rw[e,LI,List.set_append_right _ _ ad,hl,show (b+1)*12+1 - 12=b*12+1 by omega];exact g0.2 ⟨_,_,rfl,hx,aq⟩
theorem cw(code:List ay)(b:Nat)(t:Int):(gm code b t).length=code.length:=by unfold gm;rw[List.length_modify]
def k2(x:ay):Prop:=(x.op=2\/x.op=3)\/(x.ints=[]/\x.places=[])
def Ff(u:aw):Prop:=∀p∈u.procs,∀x∈p.code,k2 x
theorem eL{y:ay}(h:∀x∈c,k2 x)(bb:k2 y):∀x∈c++[y],k2 x:=λx hx=>by
 rcases LL.1 hx with hx|hx
 .exact h x hx
 .rw[Ma.1 hx];exact bb
theorem kh{b:Nat}{t:Int}(h:∀x∈c,k2 x):∀x∈gm c b t,k2 x:=λx hx=>by
 rcases qu hx with hx|⟨y,bb,rfl⟩
 .exact h x hx
 .exact h y (LF bb)
theorem dB:∀(b:al) (l:List dQ) (n:Int) (c:List ay),(∀x∈c,k2 x)->∀x∈(dL b l n c).1,k2 x
 | .nil,_,_,c,h=>h
 | .set true s e rest,l,n,c,h=>dB rest _ _ _ (eL h (.inr ⟨rfl,rfl⟩))
 | .set false s e rest,l,n,c,h=>dB rest _ _ _ (eL h (.inr ⟨rfl,rfl⟩))
 | .call g s aT rest,l,n,c,h=>dB rest _ _ _ (eL h (.inl (by cases g<;>simp[lS])))
 | .lock u r rest,l,n,c,h=>dB rest _ _ _ (eL h (.inr ⟨rfl,rfl⟩))
 | .ite e th el rest,l,n,c,h=>by
  have ac:=dB th l n _ (eL (y:=kA (bK l e) 0) h (.inr ⟨rfl,rfl⟩));simp only[dL];refine dB rest _ _ _ ?_;split
  .exact kh ac
  .exact kh (dB el l _ _ (kh (eL ac (.inr ⟨rfl,rfl⟩))))
 | .gG e th rest,l,n,c,h=>by
  have ac:=dB th l n _ (eL (y:=kA (bK l e) 0) h (.inr ⟨rfl,rfl⟩))
  exact dB rest _ _ _ (kh (eL ac (.inr ⟨rfl,rfl⟩)))
 | .ret rest,l,n,c,h=>dB rest _ _ _ (eL h (.inr ⟨rfl,rfl⟩))
theorem ye(p:bM):Ff (gV p):=λq bv=>by
 simp only[gV,L5] at bv;obtain⟨f,_,rfl⟩:=bv;exact eL (dB _ _ _ _ (by simp)) (.inr ⟨rfl,rfl⟩)
structure yH(u:aw):Prop where
 ok:dg u
 sh:Ff u
theorem yH.Jo{u:aw}{f:an}(h:yH u)(hF:ca u f):∃cp x,u.procs[f.proc.toNat]?=some cp/\cp.code[f.pc.toNat]?=some x/\f.proc.toNat<u.procs.length/\f.pc.toNat<cp.code.length/\0<=f.proc/\0<=f.pc/\(∃len:Nat,cp.code.length=len+1/\ib (br u) cp.locals cp.ax len x)/\x.ints.length<=200/\x.places.length<=200/\(x.op≠8->f.pc+1<cp.code.length)/\qL (br u) cp:=by
 obtain⟨cp,x,hp,be,hx,len,hl,al,hn⟩:=qn h.ok hF;have ac:=(List.getElem?_eq_some_iff.1 hp).1;have ax:=(List.getElem?_eq_some_iff.1 hx).1;have hlen:x.ints.length<=200/\x.places.length<=200:=by
  rcases h.sh cp (LF hp) x (LF hx) with a1|⟨a1,aU⟩
  .rcases al with⟨aU,_⟩|⟨_,_,sg,_,hs,cy,bQ,_⟩|⟨aU,_⟩|⟨aU,_⟩|⟨aU,_⟩|⟨aU,_⟩
   .omega
   .simp only[br,List.getElem?_map] at hs
    cases bv:u.procs[x.target.toNat]? with
    | none=>rw[bv] at hs;cases hs
    | some r=>
     rw[bv] at hs;simp only[Option.map_some,Mb] at hs;have a9:=h.ok.procs r (LF bv);have:=a9.ints;have:=a9.ax;subst hs;simp only at cy bQ;omega
   .omega
   .omega
   .omega
   .omega
  .rw[a1,aU];simp
 exact⟨cp,x,hp,hx,ac,ax,hF.proc,hF.pc,⟨len,hl,al⟩,hlen.1,hlen.2,hn,be⟩
theorem yB{P:Program}(S:World){o:Oper}{a:Act}{K:Act->World->Prop}{Q:Exit->Act->World->Prop}{e:TypeId}{z:Value}{size bytes:Nat}(bO:cm P t e z size bytes)(s x:Operand)
  (bn:o.op=.call {callee:=.builtin .append,args:=#[s,x],argTypes:=#[t,t]})
  (base:Nat) (v:Value) (n:Nat) (xs:List Value) (cs:Array Value) (hs:a.eval s=v) (az:S.ownsRow base e size v n xs)
  (hx:a.eval x=.slice (some ⟨S.heap.size,0,none⟩) 1 1) (T:cs.size=size) (ac:∀u∈cs.toList,u.oneCell'=true)
  (r:(n+1)*bytes<=140737488355328) (y:n+1<=140737488355328) (C:base<=S.heap.size)
  (h:∀G ab,ab.ownsRow base e size G (n+1) (xs++cs.toList)->S.grownBy ab v.ownBlock->(G.ownBlock=v.ownBlock\/G.ownBlock=some (S.heap.size+1))->K (a.put o.dst G) ab):o.wp P a (S.alloc (.cells cs e)) K Q:=by
 refine kn _ bO s x bn base v n xs hs (az.alloc _) _ 1 1 cs.toList hx (Src.block (heap_alloc_new S _) 1 ad ac) r y (by simp;omega) (λh=>nomatch h) λG ab ax a1 aU=>?_;exact h G ab ax ⟨a1.os,a1.tape,a1.output,by have:=a1.size;simp at this;omega,λk aj bl=>(a1.block k (by simp;omega) bl).trans (Below.heap_alloc S _ k aj)⟩ (by simpa using aU)
theorem pR:cm prog 54 56 (.agg #[.int .i64 0,.int .i64 0,.string ⟨#[]⟩,.slice none 0 0]) 4 56:=cm.mk' Tryz.underlying54 (by kernel_rfl) rfl ad
abbrev fresh(w ab:World):Nat->Prop:=λb=>w.heap.size<=b/\b<ab.heap.size
theorem Eh{w aW:World}(h:d.rep aP (fresh w aP) cs)(O:Ext aP aW):d.rep aW (fresh w aW) cs:=
 D.aK (λ_ ap=>⟨ap.1,LC ap.2 O.size⟩) _ _ (D.aP (λb ap=>O.block b ap.2 (λh=>h)) _ _ h)
theorem wy{S w ab:World}(h:d.rep ab (fresh w ab) cs)(O:S.heap.size<=w.heap.size):d.rep ab (fresh S ab) cs:=
 D.aK (λ_ ap=>⟨LU O ap.1,ap.2⟩) _ _ h
def rr(e:dQ):Value:=.agg #[.string e.name,.int .i64 e.kind,.int .i64 e.n]
def jg:Option dQ->Value
 | some e=>.tuple #[rr e,.bool true]
 | none=>.tuple #[.agg #[.string ⟨#[]⟩,.int .i64 0,.int .i64 0],.bool false]
theorem j2(h:∀(j:Nat) (x:dQ),l[j]?=some x->x.name≠s):dD l s=none:=by
 unfold dD;rw[List.find?_eq_none];exact Am
theorem uo(aj:l[k]?=some e)(he:e.name=s)(h:∀(j:Nat) (x:dQ),j<k->l[j]?=some x->x.name≠s):dD l s=some e:=by
 induction l generalizing k with
 | nil=>simp at aj
 | cons a l aq=>
  cases k with
  | zero=>
   simp only[List.getElem?_cons_zero,Mb] at aj;subst aj;unfold dD
   rw[List.find?_cons_of_pos (by simpa using he)]
  | succ k=>
   simp only[List.getElem?_cons_succ] at aj;have br:=h 0 a ad rfl;unfold dD;rw[List.find?_cons_of_neg (by simpa using br)];exact aq aj λj x bi hx=>h (j+1) x ad (by simpa using hx)
theorem eg(A:Mk)(n c:Nat)(l:List dQ)(s:ByteArray)(w:World)(h:Sl w (av w) A n (l.map bY))(hn:n<=1000000) :
  Calls prog 70 #[.slice A n c,.string s] w λe ab=>e=.returned (jg (dD l s))/\Ext w ab:=by
 have H:=ae h;have b2:=ae (show l.length=n by rw[<-h.1,LG]);clear h;go_enter func70,ntmps70;go_wp2;generalize bd:World.alloc _ _=W;have aF:=aZ bd;have aS:=aN bd;clear bd;have bj:=ae aF;have bM:=ae (H.on (Fr.ext aF));obtain⟨a0,ak,af⟩:=aS.two;have bH:=ae aS;clear aF aS
 go_loop [6] (λL=>∃k:Nat,k<=n/\L=.int .i64 k/\∀(j:Nat) (x:dQ),j<k->l[j]?=some x->x.name≠s) (λL=>n - (intOf L).toNat)
 case atStart=>exact⟨0,ad,rfl,λj x h=>ad⟩
 case round=>
  obtain⟨k,aj,rfl,bl⟩:=hrel;have ca:=ae bl;clear bl;by_cases ap:k<n
  .obtain⟨b,o,x,cs,rfl,O,hx,a9,bq,Z⟩:=bM.g9 yV ap;obtain rfl:=iH.1 a9;have c0:=Z 0 _ rfl;have c1:=Z 1 _ rfl;have c2:=Z 2 _ rfl;simp only[LM] at c0;have a4:b<W.heap.size:=O;have aR:=ae hx;clear hx a9 bq Z O;by_cases hs:x.name=s
   .have bT:=ae (uo aR.o hs ca.o);subst hs;go_wp2;generalize hX:World.setCell _ _ _=X;have bV:ao X w.heap.size 147 #[.string x.name,.int .i64 x.kind,.int .i64 x.n]:=hX▸((bH.aJ 0 _).aJ 1 _).aJ 2 _;have aT:Ext w X:=hX▸((bj.setCell (.inr (Lz _)) _).setCell (.inr (Lz _)) _).setCell (.inr (Lz _)) _;obtain⟨e0,a6,aQ⟩:=bV.two;clear a0 ak af;refine Mf (v:=.tuple #[.agg #[.string x.name,.int .i64 x.kind,.int .i64 x.n],.bool true]) (by simp[results,Tryz.results70,go_sem,e0]) rfl ?_;exact⟨by rw[bT.o];rfl,aT⟩
   .have q:=tD hs;have u:=ae hs;clear hs;go_wp2
    go_round
    case rel=>exact⟨k+1,ad,by go_num,λj y bi bb=>by
     by_cases z:j=k
     .subst z;rw[aR.o] at bb;injection bb with bb;subst bb;exact u.o
     .exact ca.o j y ad bb⟩
    case measure=>exact aE
  .have bT:=ae (j2 (l:=l) (s:=s) λj x bi=>ca.o j x (by have:=(List.getElem?_eq_some_iff.1 bi).1;have:=b2.o;omega) bi);go_wp2;generalize hX:World.setCell _ _ _=X;have bV:ao X w.heap.size 147 #[.string ⟨#[]⟩,.int .i64 0,.int .i64 0]:=hX▸((bH.aJ 0 _).aJ 1 _).aJ 2 _;have aT:Ext w X:=hX▸((bj.setCell (.inr (Lz _)) _).setCell (.inr (Lz _)) _).setCell (.inr (Lz _)) _;obtain⟨e0,a6,aQ⟩:=bV.two;clear a0 ak af;refine Mf (v:=.tuple #[.agg #[.string ⟨#[]⟩,.int .i64 0,.int .i64 0],.bool false]) (by simp[results,Tryz.results70,go_sem,e0]) rfl ?_;exact⟨by rw[bT.o];rfl,aT⟩
structure tQ(w:World)(g:Nat)(l:List dQ):Prop where
 lt:g<w.heap.size
 ex:∃A n c,n<=1000000/\w.cell? ⟨g,3,none⟩=some (.slice A n c)/\Sl w (av w) A n (l.map bY)
theorem tQ.on{w ab:World}{g:Nat}(h:tQ w g l)(O:Ext w ab):tQ ab g l:=by
 exact DK
theorem nj(g:Nat)(l:List dQ)(s:ByteArray)(v:dQ)(J:dD l s=some v)(aj:v.kind=1\/v.kind=4)(st:Int)(w:World)(h:tQ w g l) :
  Calls prog 134 #[.pointer (some ⟨g,0,none⟩),.string s,.int .i64 st] w λe ab=>e=.returned (rr v)/\Ext w ab:=by
 have H:=ae h;clear h;go_enter func134,ntmps134;go_upto_region 1 with(fail);generalize bd:World.alloc _ _=W;have aF:=aZ bd;have aS:=aN bd;obtain⟨aY,A,n,c,hn,c3,hs⟩:=H.on aF;obtain⟨bH,bj,bM⟩:=eS aS aF hs;clear bd aF aS hs;go_wp2_with(fail);refine(eg A n c l s W bM.o hn).mono ?_;rintro e aP ⟨rfl,ar⟩;have bu:=ae (bj.trans ar);have G:=ae (bH.aj ar);rw[J];simp only[jg,rr];clear ar c3 aY;go_upto_region 2 with(fail);generalize hV:World.alloc _ _=V;have T:=aZ hV;have a7:=ae (bu.trans T);have b9:=ae (G.aj T);have hC:=aN hV;obtain⟨a0,ak,af⟩:=hC.two;obtain⟨a8,am,aJ⟩:=b9.two;clear hV T hC;have fin:∀X,X=((V.setCell ⟨w.heap.size,0,none⟩ (.string v.name)).setCell ⟨w.heap.size,1,none⟩ (.int .i64 v.kind)).setCell ⟨w.heap.size,2,none⟩ (.int .i64 v.n)->ao X w.heap.size 147 #[.string v.name,.int .i64 v.kind,.int .i64 v.n]/\Ext w X:=by
  rintro X rfl;exact⟨((b9.aJ 0 _).aJ 1 _).aJ 2 _,((a7.setCell (.inr (Lz _)) _).setCell (.inr (Lz _)) _).setCell (.inr (Lz _)) _⟩
 have d:=ae fin;clear fin;obtain⟨bi,cT,bI⟩:=v;simp only at *;rcases aj with rfl|rfl
 all_goals
  go_wp2;generalize hX:World.setCell _ _ _=X;obtain⟨bU,a3⟩:=d.o X hX.symm;obtain⟨e0,a6,aQ⟩:=bU.two;clear a0 ak af a8 am aJ;refine Mf (v:=.agg #[.string bi,.int .i64 _,.int .i64 bI]) (by simp[results,Tryz.results134,go_sem,e0];rfl) rfl ?_;exact⟨rfl,a3⟩
def gg(l:List dQ):VE->Prop
 | .num _=>True
 | .ha s=>∃v,dD l s=some v/\(v.kind=1\/v.kind=4)
 | .loc _=>False
 | .iK _=>False
 | .un op x=>(op=3\/op=4)/\gg l x
 | .bin op x y=>(5<=op/\op<=17)/\gg l x/\gg l y
theorem x0(x:VE):x.args.length<=2:=by cases x<;>simp[VE.args]
def pG(l:List dQ)(x:VE):Prop:=∀(g:Nat) (st op n:Int) (s:ByteArray) (A:Mk) (m c:Nat) (w:World),tQ w g l->(bk x).rep w (av w) [.int .i64 op,.int .i64 n,.string s,.slice A m c]->
 Calls prog 133 #[.pointer (some ⟨g,0,none⟩),.agg #[.int .i64 op,.int .i64 n,.string s,.slice A m c],.int .i64 st] w λr ab=>
  ∃(o aQ:Int) (aq:ByteArray) (I:Mk) (bS aD:Nat),r=.returned (.agg #[.int .i64 o,.int .i64 aQ,.string aq,.slice I bS aD])/\(bk (bK l x)).rep ab (fresh w ab) [.int .i64 o,.int .i64 aQ,.string aq,.slice I bS aD]/\Ext w ab
abbrev KZ(B:Nat)(wr:World)(v:Value):Nat->Prop:=λb=>B<=b/\b<wr.heap.size/\v.ownBlock≠some b
structure zI(w wr:World)(l:List dQ)(x:VE)(A:Mk)(m c k:Nat)(I:Mk)(aD:Nat)(xs:List Value):Prop where
 ext:Ext w wr
 b4:ao wr w.heap.size 56 #[.int .i64 x.a2,.int .i64 x.numOf,.string x.bt,.slice A m c]
 b6:ao wr (w.heap.size+1) 56 #[.int .i64 0,.int .i64 0,.string ⟨#[]⟩,.slice none 0 0]
 b8:ao wr (w.heap.size+2) 56 #[.int .i64 x.a2,.int .i64 x.numOf,.string ⟨#[]⟩,.slice I k aD]
 own:wr.ownsRow (w.heap.size+3) 56 4 (.slice I k aD) k xs
 aO:D.aO wr (KZ (w.heap.size+3) wr (.slice I k aD)) ((x.args.take k).map λy=>bk (bK l y)) xs
theorem zI.next{w wr aW:World}{x y:VE}{m c:Nat}{I cD:Mk}{aD c3:Nat}{cG:List Value}(h:zI w wr l x A m c k I aD xs)(bb:x.args[k]?=some y)
  (he:Ext wr aP) (a9:(bk (bK l y)).rep aP (fresh wr aP) cG) (az:aW.ownsRow (w.heap.size+3) 56 4 (.slice cD (k+1) c3) (k+1) (xs++cG)) (aY:aP.grownBy aW (Value.slice I k aD).ownBlock)
  (O:(Value.slice cD (k+1) c3).ownBlock=(Value.slice I k aD).ownBlock\/(Value.slice cD (k+1) c3).ownBlock=some (aP.heap.size+1)) (hX:aW.setCell ⟨w.heap.size+2,3,none⟩ (.slice cD (k+1) c3)=X) :
  zI w X l x A m c (k+1) cD c3 (xs++cG):=by
 have ap:∀g,(Value.slice I k aD).ownBlock=some g->w.heap.size+3<=g/\g<wr.heap.size:=λg aY=>h.own.lt g aY;have d:=h.b8.lt;have e1:=he.size;have e2:=aY.size;have b6:=cJ hX;have a:∀b,b<aP.heap.size->b≠w.heap.size+2->some b≠(Value.slice I k aD).ownBlock->X.heap[b]?=aP.heap[b]?:=λb ac ax a1=>(b6.block b ad ax).trans (aY.block b ac a1);have bl:∀b,b<w.heap.size+3->some b≠(Value.slice I k aD).ownBlock:=λb O he=>by have:=ap b he.symm;omega
 have b7:∀b,b<wr.heap.size->b≠w.heap.size+2->some b≠(Value.slice I k aD).ownBlock->X.heap[b]?=wr.heap[b]?:=λb ac ax a1=>(a b ad ax a1).trans (he.block b ac λh=>h);have cx:X.heap.size=aW.heap.size:=by rw[<-hX];simp
 refine⟨?_,?_,?_,?_,?_,?_⟩
 .refine⟨?_,?_,?_,by have:=h.ext.size;omega,λb O _=>?_⟩
  .exact b6.os.trans (aY.os.trans (he.os.trans h.ext.os))
  .exact b6.tape.trans (aY.tape.trans (he.tape.trans h.ext.tape))
  .exact b6.output.trans (aY.output.trans (he.output.trans h.ext.output))
  .have:=h.ext.size;exact(b7 b ad ad (bl b ad)).trans (h.ext.block b O λh=>h)
 .exact(b7 _ ad ad (bl _ ad)).trans h.b4
 .exact(b7 _ ad ad (bl _ ad)).trans h.b6
 .have cI:ao aW (w.heap.size+2) 56 #[.int .i64 x.a2,.int .i64 x.numOf,.string ⟨#[]⟩,.slice I k aD]:=(h.b8.aj he).grown aY (bl _ ad);rw[<-hX];exact cI.aJ 3 _
 .refine⟨az.1,?_⟩;rcases az.2 with ax|⟨g,cap,cur,bG,j,aT,rest⟩
  .exact .inl ax
  .exact .inr ⟨g,cap,cur,bG,j,(b6.block g (Array.getElem?_eq_some_iff.1 aT).1 ad).trans aT,rest⟩
 .rw[List.take_add_one,bb,LJ];refine D.cK ?_ ?_
  .refine D.bV (λb be=>⟨be.1,by have:=be.2.1;omega,λhc=>?_⟩) _ _ (D.bU (λb be=>b7 b be.2.1 (aB be.1) λhe=>be.2.2 he.symm) _ _ h.aO);rcases O with O|O
   .rw[O] at hc;exact be.2.2 hc
   .rw[O] at hc;injection hc with hc;have:=be.2.1;omega
  .simp only[Option.toList_some,LI,L4];rw[D.bw];refine D.aK (λb be=>⟨by have:=be.1;omega,by have:=be.2;omega,λhc=>?_⟩) _ _ (D.aP (λb be=>a b be.2 (aB be.1) λhe=>by have:=(ap b he.symm).2;have:=be.1;omega) _ _ a9);rcases O with O|O
   .rw[O] at hc;have:=(ap b hc).2;have:=be.1;omega
   .rw[O] at hc;injection hc with hc;have:=be.2;omega
theorem w4(l:List dQ)(x:VE)(h:(∃op y,x=.un op y)\/∃op y z,x=.bin op y z):(bK l x).a2=x.a2/\(bK l x).numOf=x.numOf/\(bK l x).bt=⟨#[]⟩/\(bK l x).args=x.args.map (bK l):=by
 rcases h with⟨op,y,rfl⟩|⟨op,y,z,rfl⟩<;>exact⟨rfl,rfl,rfl,rfl⟩
theorem x7{w:World}{g:Nat}{bx:Value}{cs:Array Value}(hs:cs.size=4)(aS:ao V g 56 cs)(aF:Ext w V)(aY:w.heap.size<=g)(hX:(((V.setCell ⟨g,0,none⟩ v0).setCell ⟨g,1,none⟩ v1).setCell ⟨g,2,none⟩ v2).setCell ⟨g,3,none⟩ bx=X):
  ao X g 56 #[v0,v1,v2,bx]/\Ext w X/\Fr (λb=>b=g) V X:=by
 subst hX;refine⟨?_,(((aF.setCell (.inr aY) _).setCell (.inr aY) _).setCell (.inr aY) _).setCell (.inr aY) _,((((Fr.refl (λb=>b=g) V).setCell (.inl rfl) _).setCell (.inl rfl) _).setCell (.inl rfl) _).setCell (.inl rfl) _⟩;have:=(((aS.aJ 0 v0).aJ 1 v1).aJ 2 v2).aJ 3 bx
 match cs,hs with
 | ⟨[c0,c1,c2,c3]⟩,_=>exact this
namespace B5
theorem pM(h:p:=by
 have ay:m<=2:=by rw[<-hs.1,LG];exact x0 x
 have bY:x.args.length=m:=by rw[<-hs.1,LG]
 obtain⟨bA,b2,bM,cM⟩:=jc bY bw hs aq;have cj:=ae (w4 l x r);clear a9 aq bw hs bY r;go_enter func133,ntmps133;go_upto_region 1 with(fail);generalize bd:World.alloc _ _=W;have aF:=hi bd;have bQ:=fx bd;have cE:=eX bd;have cS:W.heap.size=w.heap.size+2:=by rw[<-bd];simp
 clear bd;obtain⟨a0,ak,af⟩:=bQ.two;go_upto_region 7 with(fail);generalize hV:World.alloc _ _=V;have T:=aZ hV;have hC:ao V (w.heap.size+2) 56 #[.int .i64 x.a2,.int .i64 x.numOf,.string ⟨#[]⟩,.slice none 0 0]:=hV▸ao.gA _ _ _ cS.symm;have HA:=ae (show zI w V l x A m c 0 none 0 [] from ⟨aF.trans T,bQ.aj T,cE.aj T,hC,⟨by simp,.inl ⟨rfl,rfl⟩⟩,by simp only[List.take_zero,L4,D.aO]⟩);clear hV T hC bQ cE aF cS a0 ak af;go_wp2;go_loopw [9] (λL wr=>∃(k:Nat) (I:Mk) (aD:Nat) (xs:List Value),k<=m/\L=.int .i64 k/\zI w wr l x A m c k I aD xs) (λL _=>m - (intOf L).toNat)
 case atStart=>exact⟨0,none,0,[],ad,rfl,HA.o⟩
 case round=>
  obtain⟨k,I,aD,xs,aj,rfl,bO⟩:=hrel;clear HA;have HA:=ae bO;obtain⟨a0,ak,af⟩:=bO.b4.two;obtain⟨a8,am,aJ⟩:=bO.b6.two;obtain⟨e0,a6,aQ⟩:=bO.b8.two;by_cases ap:k<m
  .obtain⟨b,o,y,cs,rfl,O,bb,aa,bq,Z⟩:=(bM.on (Fr.ext bO.ext)).g9 db ap
   match cs,bq with
   | [b1,cn,cm,bv],_=>
   have c0:=Z 0 b1 rfl;have c1:=Z 1 cn rfl;have c2:=Z 2 cm rfl;have c3:=Z 3 bv rfl;simp only[LM] at c0;have a4:b<wr.heap.size:=O;obtain⟨B,br,bc,e,cv,ci⟩:=aX.1 aa;simp only[List.cons.injEq,and_true] at e;obtain⟨rfl,rfl,rfl,rfl⟩:=e;obtain⟨bF,H⟩:=aH bb aa;have bW:=ae (cM.o k y bb);have F:=ae (b2.on bO.ext);clear bb aa ci Z O bO a8 am aJ;go_wp2;refine eK (λ_=>False) [(0,3),(1,0),(2,3),(3,3),(4,0),(5,3),(6,3),(7,0),(8,3),(9,1),(10,1),(11,2),(12,3),(13,2)] ?_;refine pf ?_;refine ph ?_
   iterate 2 refine pf ?_
   refine ph ?_
   iterate 2 refine pf ?_
   refine ph ?_;refine pf ?_;refine aI rfl (λK hK=>?_);go_simp;refine(bW.o g st _ _ _ _ _ _ _ (F.on Mg.drew) (D.on H.o (Fr.ext Mg.drew))).mono ?_;rintro e aP ⟨o1,n1,s1,cp,c6,c8,rfl,b9,ar⟩;refine dP hK (ar) ?_;clear hK K;have aL:Ext wr aP:=Fr.aF ar;have G:(bk (bK l y)).rep aP (fresh wr aP) [.int .i64 o1,.int .i64 n1,.string s1,.slice cp c6 c8]:=b9;have ab:=ah aL G;refine ry ?_;refine au rfl (λK hK=>?_);rw[if_pos (by rfl)];have cI:w.heap.size+3<=aP.heap.size:=by have:=HA.b8.lt;have:=aL.size;omega
   refine yB _ pR (.tmp 40) (.tmp 49) (by rfl) (w.heap.size+3) (.slice I k aD) k xs _ (by rfl) (bR HA.own (Fr.ext aL)) (by rfl) (by rfl) (by simp[Value.oneCell']) ad ad cI ?_;intro v2 aW S an E;obtain⟨cD,bt,rfl,aO,_⟩:=bH S;have i:ao aW (w.heap.size+2) 56 _:=(HA.b8.aj aL).grown an (λhe=>by have:=HA.own.lt _ he.symm;omega);have ca:=aA S an E;clear S an E b9 G ar a0 ak af e0 a6 aQ c0 c1 c2 c3 a4;obtain⟨e0,a6,aQ⟩:=i.two;refine dU hK ?_;clear hK K;refine pf ?_;refine au rfl (λK hK=>?_);go_simp;refine dU hK ?_;clear hK K;refine aC ?_;clear e0 a6 aQ;generalize hX:World.setCell aW _ _=X;have co:=ae (HA.next bF.o ab.1 ab.2 ca.1 ca.2.1 ca.2.2 hX);clear hX i aL;go_wp2;go_roundw
   case rel=>exact⟨k+1,cD,bt,_,ad,by go_num,co.o⟩
   case measure=>exact aE
  .obtain rfl:m=k:=ad;clear bO;go_wp2;generalize hX:World.setCell _ _ _=X;obtain⟨bU,a3,a5⟩:=x7 rfl HA.b6 HA.ext (Nat.le_succ _) hX;obtain⟨bp,aM,aV⟩:=bU.two;clear a0 ak af a8 am aJ e0 a6 aQ;refine Mf (v:=.agg #[.int .i64 x.a2,.int .i64 x.numOf,.string ⟨#[]⟩,.slice I m aD]) (by simp[results,Tryz.results133,go_sem,bp]) rfl ?_;refine⟨_,_,_,_,_,_,rfl,?_,a3⟩;obtain⟨ac,ax,a1,aU⟩:=cj.o;have az:=HA.own;obtain⟨_,_,bG,hle,_⟩:=bH az;injection bG with eb u hv3;have bX:=HA.aO;have ap:∀g,(Value.slice I m aD).ownBlock=some g->w.heap.size+3<=g/\g<wr.heap.size:=λg aY=>az.lt g aY;have ce:X.heap.size=wr.heap.size:=by rw[<-hX];simp
   rw[<-bA.o,List.take_length] at bX;refine aX.2 ⟨I,m,aD,by rw[ac,ax,a1],ad,?_⟩;rw[aU,List.map_map];have f:X.ownsRow (w.heap.size+3) 56 4 (.slice I m aD) m xs:=by
    refine⟨az.1,?_⟩;rcases az.2 with ax|⟨g,cap,cur,bG,j,aT,rest⟩
    .exact .inl ax
    .exact .inr ⟨g,cap,cur,bG,j,(a5.block g (Array.getElem?_eq_some_iff.1 aT).1 ad).trans aT,rest⟩
   refine Sl.qE f (D.bV (λb be=>⟨by have:=be.1;omega,by have:=be.2.1;omega⟩) _ _ (D.bU (λb be=>a5.block b be.2.1 (aB be.1)) _ _ bX)) (by rw[LG];exact bA.o) (λg _ ac ax=>⟨ad,ax⟩)
 ):p:=h
end B5
open B5 in
theorem rV(l:List dQ)(x:VE)(r:(∃op y,x=.un op y)\/∃op y z,x=.bin op y z)(cO:(x.a2 == 2)=false)(aq:∀(k:Nat) (y:VE),x.args[k]?=some y->pG l y):pG l x:=by
 intro g st op n s A m c w bw a9;exact pL
def VE.leaf:VE->Prop
 | .un _ _=>False
 | .bin _ _ _=>False
 | _=>True
namespace B6
theorem pM(h:p:=by
 have ay:m<=2:=by rw[<-hs.1,LG];exact x0 x
 have bY:x.args.length=m:=by rw[<-hs.1,LG]
 obtain⟨b2,bM,cM⟩:=eS bw hs aq;clear a9 aq bw hs;go_enter func133,ntmps133;go_upto_region 1 with(fail);generalize bd:World.alloc _ _=W;have aF:=hi bd;have bQ:=fx bd;have cE:=eX bd;have cS:W.heap.size=w.heap.size+2:=by rw[<-bd];simp
 clear bd;obtain⟨bj,cg,b4⟩:=eS aF bQ cE;obtain⟨a0,ak,af⟩:=bQ.two;obtain⟨a8,am,aJ⟩:=cE.two;clear aF bQ cE
 cases x with
 | loc j=>exact hx.elim
 | iK j=>exact hx.elim
 | ha s=>
  obtain⟨v,J,aj⟩:=hx;have d:=ae (show bK l (.ha s)=if v.kind=1 then .iK v.n else .loc v.n by unfold bK;simp only[J]);simp only[VE.a2,VE.numOf,VE.bt] at *;go_wp2_with(fail);refine(nj g l s v J aj st W (b2.on bj.o)).mono ?_;rintro e aP ⟨rfl,ar⟩;have bu:=ae (bj.trans ar);have i:=ae (b4.aj ar);clear ar a0 ak af a8 am aJ J;obtain⟨bi,cT,bI⟩:=v;simp only[rr] at *;go_upto_region 3 with(fail);generalize hV:World.alloc _ _=V;have T:=aZ hV;have a7:=ae (bu.trans T);have u:=ae (i.aj T);have hC:=aN hV;obtain⟨a0,ak,af⟩:=hC.two;obtain⟨a8,am,aJ⟩:=u.two;clear hV T hC;rcases aj with rfl|rfl
  .go_wp2;generalize hX:World.setCell _ _ _=X;obtain⟨bU,a3,_⟩:=x7 rfl u.o a7.o (Nat.le_succ _) hX;obtain⟨e0,a6,aQ⟩:=bU.two;clear a0 ak af a8 am aJ;refine Mf (v:=.agg #[.int .i64 19,.int .i64 bI,.string ⟨#[]⟩,.slice none 0 0]) (by simp[results,Tryz.results133,go_sem,e0]) rfl ?_;refine⟨_,_,_,_,_,_,rfl,?_,a3⟩;rw[show bK l (.ha s)=.iK bI by simpa using d.o];exact aX.2 ⟨none,0,0,rfl,Lz _,Sl.bT _⟩
  .go_wp2;generalize hX:World.setCell _ _ _=X;obtain⟨bU,a3,_⟩:=x7 rfl u.o a7.o (Nat.le_succ _) hX;obtain⟨e0,a6,aQ⟩:=bU.two;clear a0 ak af a8 am aJ;refine Mf (v:=.agg #[.int .i64 18,.int .i64 bI,.string ⟨#[]⟩,.slice none 0 0]) (by simp[results,Tryz.results133,go_sem,e0]) rfl ?_;refine⟨_,_,_,_,_,_,rfl,?_,a3⟩;rw[show bK l (.ha s)=.loc bI by simpa using d.o]
   exact aX.2 ⟨none,0,0,rfl,Lz _,Sl.bT _⟩
 | num n=>
  obtain rfl:0=m:=bY;simp only[VE.a2,VE.numOf,VE.bt] at *;go_upto_region 7 with(fail);generalize hV:World.alloc _ _=V;have T:=aZ hV;have a7:=ae (bj.trans T);have u:=ae (b4.aj T);have hC:ao V (w.heap.size+2) 56 #[.int .i64 1,.int .i64 n,.string ⟨#[]⟩,.slice none 0 0]:=hV▸ao.gA _ _ _ cS.symm;have f:=cg.aj T;clear a0 ak af a8 am aJ;obtain⟨c0,cy,bJ⟩:=f.two;obtain⟨a0,ak,af⟩:=hC.two;obtain⟨a8,am,aJ⟩:=u.two;clear hV T hC f;go_wp2;refine wp_loop_rounds 1 ?_;rw[rounds_succ];go_wp2;generalize hX:World.setCell _ _ _=X;obtain⟨bU,a3,_⟩:=x7 rfl u.o a7.o (Nat.le_succ _) hX;obtain⟨e0,a6,aQ⟩:=bU.two;clear a0 ak af a8 am aJ;refine Mf (v:=.agg #[.int .i64 1,.int .i64 n,.string ⟨#[]⟩,.slice none 0 0]) (by simp[results,Tryz.results133,go_sem,e0]) rfl ?_
  exact⟨_,_,_,_,_,_,rfl,aX.2 ⟨none,0,0,rfl,Lz _,Sl.bT _⟩,a3⟩
 | un op y=>exact bg.elim
 | bin op y z=>exact bg.elim
 ):p:=h
end B6
open B6 in
theorem rW(l:List dQ)(x:VE)(hx:gg l x)(bg:x.leaf)(aq:∀(k:Nat) (y:VE),x.args[k]?=some y->pG l y):pG l x:=by
 intro g st op n s A m c w bw a9;exact pL
theorem lq(l:List dQ)(x:VE)(hx:gg l x)(aq:∀(k:Nat) (y:VE),x.args[k]?=some y->pG l y):pG l x:=by
 cases x with
 | un op y=>exact rV l _ (.inl ⟨_,_,rfl⟩) (by rcases hx.1 with h|h<;>(show (op == 2)=false;rw[h];rfl)) aq
 | bin op y z=>exact rV l _ (.inr ⟨_,_,_,rfl⟩) (by have:=hx.1.1;show (op == 2)=false;simp;omega) aq
 | num n=>exact rW l _ hx trivial aq
 | ha n=>exact rW l _ hx trivial aq
 | loc j=>exact hx.elim
 | iK j=>exact hx.elim
theorem gx(l:List dQ):∀(x:VE),gg l x->pG l x
 | .num n,h=>lq l _ h λk y bb=>by simp[VE.args] at bb
 | .ha n,h=>lq l _ h λk y bb=>by simp[VE.args] at bb
 | .loc n,h=>h.elim
 | .iK n,h=>h.elim
 | .un op y,h=>lq l _ h λk z aG=>by
  match k,aG with
  | 0,aG=>simp[VE.args] at aG;subst aG;exact gx l y h.2
 | .bin op x y,h=>lq l _ h λk z aG=>by
  match k,aG with
  | 0,aG=>simp[VE.args] at aG;subst aG;exact gx l x h.2.1
  | 1,aG=>simp[VE.args] at aG;subst aG;exact gx l y h.2.2
structure yG(w:World)(g:Nat)(M:List bL):Prop where
 lt:g<w.heap.size
 ex:∃A n c,n<=1000000/\w.cell? ⟨g,1,none⟩=some (.slice A n c)/\Sl w (av w) A n (M.map eC)
theorem yG.on{w ab:World}{g:Nat}{M:List bL}(h:yG w g M)(O:Ext w ab):yG ab g M:=by
 exact DK
def qP(M:List bL)(l:List dQ)(r:eW):Prop:=∃v,dD l r.name=some v/\
 ((v.kind=5/\r.idx=none)\/(v.kind=2/\∃m,0<=v.n/\M[v.n.toNat]?=some m/\(0<m.size->∃e,r.idx=some e/\gg l e)/\(¬0<m.size->r.idx=none)))
theorem dZ{w:World}{p:bP}:(ds p).rep w P cs↔∃A n c,cs=[.bool p.param,.int .i64 p.index,.slice A n c]/\n<=c/\Sl w P A n (p.at_.toList.map bk):=by
 unfold ds;rw[bJ,fB];constructor
 .rintro⟨y,rfl,h⟩;rw[bf] at h;obtain⟨cm,rfl,h⟩:=h;rw[aL] at h;obtain⟨A,n,c,bv,rfl,hc,hs,a1⟩:=h;exact xR
 .rintro⟨A,n,c,rfl,hc,hs⟩;exact⟨_,rfl,bf.2 ⟨_,rfl,aL.2 ⟨A,n,c,[],rfl,hc,hs,aQ.2 rfl⟩⟩⟩
theorem qg{w:World}{g:Nat}{c0 c1 c2:Value}(aS:ao V g t #[c0,c1,c2])(aF:Ext w V)(aY:w.heap.size<=g)(hX:((V.setCell ⟨g,0,none⟩ v0).setCell ⟨g,1,none⟩ v1).setCell ⟨g,2,none⟩ v2=X):
  ao X g t #[v0,v1,v2]/\Ext w X/\Fr (λb=>b=g) V X:=by
 subst hX;exact⟨((aS.aJ 0 v0).aJ 1 v1).aJ 2 v2,((aF.setCell (.inr aY) _).setCell (.inr aY) _).setCell (.inr aY) _,(((Fr.refl (λb=>b=g) V).setCell (.inl rfl) _).setCell (.inl rfl) _).setCell (.inl rfl) _⟩
def HQ(w:World)(p:bP)(e:Ending)(ab:World):Prop:=
 ∃(b:Bool) (i:Int) (A:Mk) (n c:Nat),e=.returned (.agg #[.bool b,.int .i64 i,.slice A n c])/\(ds p).rep ab (fresh w ab) [.bool b,.int .i64 i,.slice A n c]/\Ext w ab
def vE:Prop:=∀(g:Nat) (l:List dQ) (M:List bL) (r:eW),qP M l r->∀(st:Int) (s:ByteArray) (A:Mk) (n c:Nat) (w:World),tQ w g l->yG w g M->(kL r).rep w (av w) [.string s,.slice A n c]->
  Calls prog 136 #[.pointer (some ⟨g,0,none⟩),.agg #[.string s,.slice A n c],.int .i64 st] w (HQ w (mA l r))
theorem EH{w ab:World}{B e z:Nat}{v:Value}(h:w.ownsRow B e z v n xs)(aj:∀b,B<=b->b<w.heap.size->ab.heap[b]?=w.heap[b]?):ab.ownsRow B e z v n xs:=by
 refine⟨h.1,?_⟩;rcases h.2 with ax|⟨ah,cap,cur,bG,j,aT,rest⟩
 .exact .inl ax
 .exact .inr ⟨ah,cap,cur,bG,j,(aj ah j (Array.getElem?_eq_some_iff.1 aT).1).trans aT,rest⟩
namespace C7
theorem dd(h:p:=by
 clear bL av ay;generalize bR:World.setCell aW _ _=cQ;have ct:=cJ bR;have bV:ao cQ X.heap.size 58 #[.bool false,.int .i64 mi,.slice cD 1 bt]:=bR▸a3.aJ 2 _;have U:=N.on ct ad;have bg:=L.on ct ad;have j:=ae ct;clear bR a3 N L ct;obtain⟨a0,ak,af⟩:=bg.two;obtain⟨bL,av,ay⟩:=bV.two;obtain⟨d6,du,dw⟩:=U.two;go_wp2;rw[rounds_succ];go_wp2;generalize cq:World.setCell _ _ _=Y;obtain⟨S,aL,aT⟩:=ca.o;have bu:=aT.size;have a1:=aL.size;have bq:=j.size;have cH:Ext w cQ:=⟨j.os.trans ((ba.trans (aL.trans aT)).os),j.tape.trans ((ba.trans (aL.trans aT)).tape),j.output.trans ((ba.trans (aL.trans aT)).output),LU (ba.trans (aL.trans aT)).size bq,
  λk aj _=>(j.block k (LC aj (ba.trans (aL.trans aT)).size) ad).trans ((ba.trans (aL.trans aT)).block k aj λh=>h)⟩
 obtain⟨bD,bx,bJ⟩:=qg U cH (Nat.le_succ _) cq;obtain⟨bp,aM,aV⟩:=bD.two;refine Mf (v:=.agg #[.bool false,.int .i64 mi,.slice cD 1 bt]) (by simp[results,Tryz.results136,go_sem,bp]) rfl ?_;refine⟨_,_,_,_,_,rfl,?_,bx⟩;rw[bn.o];refine dZ.2 ⟨cD,1,bt,rfl,ad,?_⟩;simp only[hx,Option.map_some,Option.toList_some,LI,L4];have bl:=bJ.size;have fN:=cR.lt;have cu:∀b,dJ.heap.size<=b->b<aW.heap.size->Y.heap[b]?=aW.heap[b]?:=λb ac ax=>(bJ.block b ad ad).trans (j.block b ax ad);have f:=EH S cu;simp only[LW,L8] at f;refine Sl.qE f ?_ rfl (λah _ ac ax=>⟨ad,ax⟩);rw[D.bw];exact D.aK (λb be=>⟨by have:=be.1;omega,by have:=be.2;omega⟩) _ _ (D.aP (λb be=>(cu b be.1 (aB be.2)).trans (aT.block b be.2 λh=>h)) _ _ ab.o)
 ):p:=h
theorem Bi(h:p:=by
 refine dv rfl (by rfl) ?_
 try simp only[PU]
 refine dv rfl (by rfl) ?_
 try simp only[PU]
 refine iw rfl (by rfl) ?_
 try simp only[PU]
 refine dv rfl (by rfl) ?_
 try simp only[PU]
 iterate 2 refine pf ?_
 refine aC ?_;go_wp2;refine wp_loop_rounds 1 ?_;rw[rounds_succ];go_wp2;generalize cq:World.setCell _ _ _=Y;obtain⟨bD,bx,_⟩:=qg bE.o ba.o (Nat.le_succ _) cq;obtain⟨bp,aM,aV⟩:=bD.two;clear cq;refine Mf (v:=.agg #[.bool true,.int .i64 bI,.slice none 0 0]) (by simp[results,Tryz.results136,go_sem,bp]) rfl ?_;exact zS
 ):p:=h
theorem fO(h:p:=by
 refine tf ?_;refine ck ?_;generalize hX:World.setCell _ _ _=X;obtain⟨bC,bz,_⟩:=qg b5 bo a6 hX;have a7:=ae (bj.trans bz);have a2:=ae (cg.aj bz);have u:=ae (b4.aj bz);clear hX a8 am aJ b5 bo a6;obtain⟨a8,am,aJ⟩:=bC.two;go_upto_region 6 with(fail);generalize hV:World.alloc _ _=dJ;have T:=aZ hV;have cW:=bC.aj T;have bf:=aN hV;have ba:=ae (a7.trans T);have ag:=a2.aj T;have bE:=ae (u.aj T);have cx:w.heap.size+2<=X.heap.size:=u.lt;obtain⟨bh,cR⟩:=aH ag bf;clear hV T bC a8 am aJ;obtain⟨a8,am,aJ⟩:=cW.two;obtain⟨a0,ak,af⟩:=ag.two;obtain⟨bL,av,ay⟩:=bf.two;obtain⟨d6,du,dw⟩:=bE.two;have bX:w.heap.size+2<=dJ.heap.size:=ad;clear cW ag bf;obtain⟨bi,cT,bI⟩:=v;simp only at *;rcases cK.o with⟨cy,al⟩|⟨ax,m,h0,hm,cZ,cf⟩
 .subst cy;have ai:n=0:=by have:=bM.1;rw[al] at this;exact this.symm
  subst ai;go_wp2;refine eK (λ_=>False) [(0,3),(1,0),(2,3),(3,3),(4,3),(5,3),(6,3),(7,3),(8,0),(9,3),(10,0),(11,3),(12,3),(13,0),(14,3),(15,3),(16,3)] ?_;refine pf ?_;refine ph ?_
  iterate 2 refine pf ?_
  refine dv rfl (by rfl) ?_;exact Bh
 .subst ax;obtain⟨mi,rfl⟩:=LH h0;rw[LZ] at hm;obtain⟨_,MA,mn,mc,dQ,cG,F⟩:=eV.on ba.o;have bb:mi<mn:=by have:=(List.getElem?_eq_some_iff.1 hm).1;have:=F.1;rw[LG] at this;omega
  obtain⟨hr,bs,bS,cs,rfl,cd,aR,bG,bA,aU⟩:=F.g9 (z:=3) (λ_=>rfl) bb;rw[hm] at aR;injection aR with aR;subst aR;obtain rfl:=fq.1 bG;have f2:=aU 2 _ rfl;have bv:hr<dJ.heap.size:=cd;have an:g<dJ.heap.size:=LC b2.lt ba.size;clear F bA aU bG cd;by_cases aG:0<m.size
  .have bY:decide (m.size > 0)=true:=by simpa using aG
   obtain⟨x,hx,aw⟩:=cZ aG;have ap:=bM.on (Fr.ext ba.o);rw[hx] at ap;obtain rfl:1=n:=ap.1;obtain⟨b,o,bU,Z,bm,E,rfl,O,az,e0,e1,e2,e3⟩:=Sl.ED ap (db x);obtain⟨B,br,bc,e,cv,ci⟩:=aX.1 az;simp only[List.cons.injEq,and_true] at e;obtain⟨rfl,rfl,rfl,rfl⟩:=e;have a4:b<dJ.heap.size:=O;have H:=ae az;have bW:=ae (gx l x aw);have bP:=ae (b2.on ba.o);clear az ci O ap cZ cf;go_wp2;refine eK (λ_=>False) [(0,3),(1,0),(2,3),(3,3),(4,3),(5,3),(6,3),(7,3),(8,0),(9,3),(10,0),(11,3),(12,3),(13,0),(14,3),(15,3),(16,3)] ?_;refine pf ?_;refine ph ?_
   iterate 6 refine pf ?_
   refine ph ?_;refine pf ?_;refine ph ?_
   iterate 2 refine pf ?_
   refine ph ?_
   iterate 3 refine pf ?_
   refine aC ?_;go_wp2;refine wp_loop_rounds 2 ?_;rw[rounds_succ];go_wp2;refine eK (λ_=>False) [(0,3),(1,0),(2,3),(3,3),(4,0),(5,3),(6,3),(7,0),(8,3),(9,1),(10,1),(11,2),(12,3),(13,2)] ?_;refine pf ?_;refine bO (v:=?_) rfl (by rfl) (λV hV=>?_) ?_;rotate_left
   .obtain⟨hVc,hVf⟩:=Fr.jy hV
    (go_simp<;>with_reducible rfl)
   try simp only[PU]
   iterate 2 refine pf ?_
   refine bO (v:=?_) rfl (by rfl) (λV hV=>?_) ?_;rotate_left
   .obtain⟨hVc,hVf⟩:=Fr.jy hV
    (go_simp<;>with_reducible rfl)
   try simp only[PU]
   iterate 2 refine pf ?_
   refine bO (v:=?_) rfl (by rfl) (λV hV=>?_) ?_;rotate_left
   .obtain⟨hVc,hVf⟩:=Fr.jy hV
    (go_simp<;>with_reducible rfl)
   try simp only[PU]
   refine pf ?_;refine aI rfl (λK hK=>?_);go_simp;refine(bW.o g st _ _ _ _ _ _ _ (bP.on Mg.drew.drew) (D.on H.o (Fr.ext Mg.drew.drew))).mono ?_;rintro e aP ⟨o1,n1,s1,cp,c6,c8,rfl,b9,ar⟩;refine dP hK (ar) ?_;clear hK K;have aL:Ext dJ aP:=Fr.aF (Fr.aF ar);have G:(bk (bK l x)).rep aP (fresh dJ aP) [.int .i64 o1,.int .i64 n1,.string s1,.slice cp c6 c8]:=b9;have ab:=ae G;refine ry ?_;refine au rfl (λK hK=>?_);rw[if_pos (by rfl)];have a1:=aL.size;refine yB _ pR (.tmp 79) (.tmp 88) (by rfl) dJ.heap.size (.slice none 0 0) 0 [] _ (by rfl) ⟨by simp,.inl ⟨rfl,rfl⟩⟩ (by rfl) (by rfl) (by simp[Value.oneCell']) ad ad a1 ?_;intro v2 aW S aE _;obtain⟨cD,bt,rfl,aO,_⟩:=bH S;have aT:Ext aP aW:=Mg.grown aE (by simp[Value.ownBlock]);have a3:=(cR.aj aL).aj aT;have N:=(bE.aj aL).aj aT;have L:=(bh.aj aL).aj aT;have ca:=aA S aL aT;clear S aE b9 G ar aL aT a0 ak af a8 am aJ bL av ay d6 du dw e0 e1 e2 e3 a4 f2 bv an cG;obtain⟨bL,av,ay⟩:=a3.two;exact ny
  .have bY:decide (m.size > 0)=false:=by simp;omega
   have al:=cf ad;have ai:n=0:=by have:=bM.1;rw[al] at this;exact this.symm
   subst ai;clear cZ cf;go_wp2;refine eK (λ_=>False) [(0,3),(1,0),(2,3),(3,3),(4,3),(5,3),(6,3),(7,3),(8,0),(9,3),(10,0),(11,3),(12,3),(13,0),(14,3),(15,3),(16,3)] ?_;refine pf ?_;refine ph ?_
   iterate 6 refine pf ?_
   refine ph ?_;refine pf ?_;refine ph ?_
   iterate 2 refine pf ?_
   refine ph ?_
   iterate 3 refine pf ?_
   refine aC ?_;go_wp2;refine wp_loop_rounds 1 ?_;rw[rounds_succ];go_wp2;generalize cq:World.setCell _ _ _=Y;obtain⟨bD,bx,_⟩:=qg bE.o ba.o (Nat.le_succ _) cq;obtain⟨bp,aM,aV⟩:=bD.two;clear cq;refine Mf (v:=.agg #[.bool false,.int .i64 mi,.slice none 0 0]) (by simp[results,Tryz.results136,go_sem,bp]) rfl ?_;exact zS
 ):p:=h
theorem vZ(h:p:=by
 refine(eg bB ln lc l r.name V.drew (cm.on (Fr.ext bo.drew)) dt).mono ?_;rintro e aP ⟨rfl,ar⟩;rw[bT.o];simp only[jg,rr];refine dU hK ?_;clear hK K
 iterate 3 refine tf ?_
 have cn:=aS.aj (Fr.aF ar);have aL:=bo.trans (Fr.aF ar);clear aS bo ar;exact key W.heap.size aP ⟨aL,cn,Lz _⟩
 ):p:=h
theorem Ba(h:p:=by
 refine lK (P:=?P1) (ops:=?o1) (Q:=?q1) (R:=?r1) (tails:=?t1) (rest:=.pick [11] (λ_=>.free 12 (.stop))) (aa:=?aa) (C:=λde V=>Ext W V/\ao V de 147 #[.string ⟨#[]⟩,.int .i64 0,.int .i64 0]/\W.heap.size<=de) (λkey=>?main) ?key
 case main=>
  refine a5 ?_ ?_
  ·
   refine bN rfl (λK hK=>?_) rfl;go_simp;refine(eg bB ln lc l r.name W.drew (cm.on (Fr.ext Mg.drew)) dt).mono ?_;rintro e aP ⟨rfl,ar⟩;rw[bT.o];simp only[jg,rr];refine dU hK ?_;clear hK K
   iterate 3 refine tf ?_
   refine aq ?_;refine eu ?_;generalize hV:World.alloc _ _=V;have aS:=aN hV;have bo:Ext W V:=hV▸(Fr.aF ar).alloc _;exact DN
  ·
   exact vY
 case key=>
  rintro de V ⟨bo,b5,a6⟩;have cS:=b4.lt;have bF:=cg.lt;obtain⟨a8,am,aJ⟩:=b5.two;clear a0 ak af cN;exact gr
 ):p:=h
end C7
open C7 in
theorem Gl:vE:=by
 intro g l M r b8 st s A n c w bw hM a9;obtain⟨I,aQ,aD,e,aK,hs⟩:=jH.1 a9;simp only[List.cons.injEq,Value.string.injEq,Value.slice.injEq,and_true] at e;obtain⟨rfl,rfl,rfl,rfl⟩:=e;obtain⟨v,J,aj⟩:=b8;have cK:=ae aj;have bn:=ae (show mA l r=⟨v.kind == 5,v.n,r.idx.map (bK l)⟩ by unfold mA;simp only[J]);obtain⟨bT,b2,eV,bM⟩:=jc J bw hM hs;clear a9 hs bw hM aj J;go_enter func136,ntmps136;go_wp2;generalize bd:World.alloc _ _=W;have aF:=hi bd;have bQ:=fx bd;have cE:=eX bd;clear bd;obtain⟨bj,cg,b4⟩:=eS aF bQ cE;obtain⟨aY,bB,ln,lc,dt,cN,y⟩:=b2.on aF;have cm:=ae y;obtain⟨a0,ak,af⟩:=bQ.two;clear aF bQ cE y;exact A9
end Go.Proofs.YtflecliffjbleaaGreat
