/- Part 19 of the proof. No condition of its own. -/
import Derived.Test.YtbkhhfajcgkpgaaGreatQ18
namespace Go.Proofs.YtbkhhfajcgkpgaaGreat
open Go.RowKit Go.Proofs.Tryz
set_option maxRecDepth 1000000
set_option maxHeartbeats 25600000
set_option linter.unusedVariables false
variable{a:Act}{t:Int}{fs:List an}{N bytes n size:Nat}{o:Oper}{e:VE}{c0 c1 c2 c3 z:Value}{J:World}{Y f:an}{u:av}{x:ay}
structure k6(u:av)(s:ah)(t:Int)(f:an)(Q:c6)(x:ay)(N:Nat):Prop where
 hU:yy u
 hS:aS u N s
 sm:Small s
 ht:dE s t=some f
 hF:bQ u f
 hp:u.procs[f.proc.toNat]?=some Q
 hx:Q.code[f.pc.toNat]?=some x
 ok:∃len:Nat,Q.code.length=len+1∧hy (bh u) Q.locals Q.aw len x
 nx:x.op≠8→f.pc+1<Q.code.length
 pc:0≤f.pc∧f.pc≤201
 il:x.ints.length≤200
 kl:x.places.length≤200
theorem k6.of{s:ah}(hU:yy u)(hS:aS u N s)(hN:N≤100000)(ht:dE s t=some f):∃Q x,k6 u s t f Q x N∧dg u s t=some x:=by
 obtain⟨hF,_,_⟩:=hS.top ht;obtain⟨Q,x,hp,hx,ae,aC,aT,a9,cl,m,g,cM,a3⟩:=hU.Hz hF;have hc:=a3.code;obtain⟨c,bB,bJ,_⟩:=hc;have hl:Q.code.length=c.length+1:=by rw[bB];simp
 exact⟨Q,x,⟨hU,hS,hS.small hU.ok hN,ht,hF,hp,hx,cl,cM,⟨a9,ab⟩,m,g⟩,tB ht hp hx⟩
theorem k6.Hw{s:ah}{Q:c6}(h:k6 u s t f Q x N)(he:fO (bh u) Q.locals e){w:World}{GA IA:Kr}{gn i:Nat}
  (aJ:Sl w (au w) GA gn (s.globals.map .i)) (al:Sl w (au w) IA i (f.ints.map .i)) (aU:(bb e).rep w (au w) [c0,c1,c2,c3]):lr w GA IA gn i s.globals f.ints e [c0,c1,c2,c3]∧nu s.globals f.ints e:=by
 obtain⟨a8,a,_⟩:=w6 h.hS h.hF h.hp he;have ae:=aJ.1;have aC:=al.1;rw[JU] at ae aC;exact⟨⟨aJ.ints,al.ints,by rw[←ae,←aC];exact a8,ki e _ aU⟩,a⟩
structure I0(u:av)(s:ah)(t:Int)(f:an)(x:ay)(r:Int×Int):Prop where
 bad:r.2≠0→cj u s t f x=({s with fault:=r.2},true)
 bz:r.2=0→x.op=6→r.1=0→cj u s t f x=(bH s t {f with pc:=x.target},true)
 bn:r.2=0→x.op=6→r.1≠0→cj u s t f x=(bH s t (next f),true)
 gl:r.2=0→x.op=1→x.c8=true→cj u s t f x=({bH s t (next f) with globals:=s.globals.set x.target.toNat r.1},true)
 lo:r.2=0→x.op=1→x.c8=false→cj u s t f x=(bH s t {next f with ints:=f.ints.set x.target.toNat r.1},true)
theorem Je{s:ah}(he:x.expr=some e)(aE:x.op=1∨x.op=6):I0 u s t f x (ev s.globals f.ints e):=by
 have h0:cj u s t f x=(if (ev s.globals f.ints e).2≠0 then ({s with fault:=(ev s.globals f.ints e).2},true)
  else if x.op=6 then (bH s t (if (ev s.globals f.ints e).1=0 then {f with pc:=x.target} else next f),true)
  else if x.c8 then ({bH s t (next f) with globals:=s.globals.set x.target.toNat (ev s.globals f.ints e).1},true)
  else (bH s t {next f with ints:=f.ints.set x.target.toNat (ev s.globals f.ints e).1},true)):=by
  unfold cj;rw[if_pos aE,he];rfl
 generalize ev s.globals f.ints e=r at *;refine⟨fun h=>?_,fun h m bi=>?_,fun h m bi=>?_,fun h ae aJ=>?_,fun h ae aJ=>?_⟩
 ·rw[h0,if_pos h]
 ·rw[h0,if_neg ab,if_pos m,if_pos bi]
 ·rw[h0,if_neg ab,if_pos m,if_neg bi]
 ·rw[h0,if_neg ab,if_neg ab,if_pos aJ]
 ·rw[h0,if_neg ab,if_neg ab,if_neg (by simp[aJ])]
theorem k6.th{s:ah}{Q:c6}(h:k6 u s t f Q x N):s.fault=0∧0≤t∧t<s.threads.length∧∃fs,s.threads[t.toNat]?=some (fs++[f])∧fs.length≤1000000:=by
 obtain⟨h0,ae,fs,bm⟩:=jx h.ht;have:=(List.getElem?_eq_some_iff.1 bm).1;exact⟨h0,ae,ab,fs,bm,by have:=(h.sm.f _ (JT bm)).1;simp at this;omega⟩
section
variable {P:Program} {ops:Array Oper} {Q:Exit→Act→World→Prop} {R:World→World→Prop} {tails:List Nat}
end
section
variable {P:Program} {ops:Array Oper} {Q:Exit→Act→World→Prop} {R:World→World→Prop} {tails:List Nat}
end
theorem af.sl{w:World}{g:Nat}{l:List Int}(h:af w g 3 (l.map eC).toArray)(hn:l.length=n){P:Nat→Prop}(aY:P g):Sl w P (some ⟨g,0,none⟩) n (l.map D.i):=by
 refine⟨by simpa using hn,fun _=>⟨g,0,l.map eC,rfl,aY,cy l,fun j u hu=>?_⟩⟩;rw[J8,h.cell];simpa using hu
def CR(g l:List Int)(es:List VE)(k:Nat):Prop:=∀e∈es.take k,(ev g l e).2=0
theorem ri{g l:List Int}:∀{es:List VE},(∀e∈es,(ev g l e).2=0)→cV g l es=(es.map fun e=>(ev g l e).1,0)
 | [],_=>rfl
 | e::es,h=>by
  have ae:=h e (by simp);have aC:=ri (es:=es) fun x hx=>h x (by simp[hx]);unfold cV;rw[if_neg ab,aC,if_neg (by simp)];rfl
theorem rh{g l:List Int}:∀{es:List VE} {k:Nat} {e:VE},CR g l es k→es[k]?=some e→(ev g l e).2≠0→cV g l es=([],(ev g l e).2)
 | [],k,e,_,h,_=>by simp at h
 | x::es,0,e,_,h,O=>by
  simp at h;subst h;unfold cV
  rw[if_pos O]
 | x::es,k+1,e,hu,h,O=>by
  have ae:(ev g l x).2=0:=hu x (by simp);have aC:=rh (es:=es) (k:=k) (e:=e) (fun y a4=>hu y (by simp[a4])) (by simpa using h) O;unfold cV;rw[if_neg ab,aC,if_pos O]
theorem pD{u:av}{s:ah}{f:an}:∀{ps:List bC},(∀p∈ps,(bk u s f p).2=0)→b3 u s f ps=(ps.map fun p=>(bk u s f p).1,0)
 | [],_=>rfl
 | p::ps,h=>by
  have ae:=h p (by simp);have aC:=pD (ps:=ps) fun x hx=>h x (by simp[hx]);unfold b3;rw[if_neg ab,aC,if_neg (by simp)];rfl
theorem pC{u:av}{s:ah}{f:an}:∀{ps:List bC} {k:Nat} {p:bC},(∀x∈ps.take k,(bk u s f x).2=0)→ps[k]?=some p→(bk u s f p).2≠0→b3 u s f ps=([],(bk u s f p).2)
 | [],k,p,_,h,_=>by simp at h
 | x::ps,0,p,_,h,O=>by
  simp at h;subst h;unfold b3
  rw[if_pos O]
 | x::ps,k+1,p,hu,h,O=>by
  have ae:(bk u s f x).2=0:=hu x (by simp);have aC:=pC (ps:=ps) (k:=k) (p:=p) (fun y a4=>hu y (by simp[a4])) (by simpa using h) O;unfold b3;rw[if_neg ab,aC,if_pos O]
theorem k6.args{s:ah}{Q:c6}(h:k6 u s t f Q x N)(aE:x.op=2∨x.op=3):(∀e∈x.ints,fO (bh u) Q.locals e)∧(∀p∈x.places,cJ (bh u) Q.locals Q.aw p)∧
  0≤x.target∧∃pc,u.procs[x.target.toNat]?=some pc∧(x.ints.length:Int)=pc.ints∧(x.places.length:Int)=pc.aw∧pX (bh u) pc:=by
 obtain⟨len,_,al⟩:=h.ok;rcases al with⟨ae,_⟩|⟨_,_,sg,aC,aT,a9,cl,m,g⟩|⟨ae,_⟩|⟨ae,_⟩|⟨ae,_⟩|⟨ae,_⟩
 ·omega
 ·refine⟨m,g,aC,?_⟩;simp only[bh,List.getElem?_map] at aT
  cases bm:u.procs[x.target.toNat]? with
  | none=>rw[bm] at aT;cases aT
  | some r=>
   rw[bm] at aT;simp only[Option.map_some,Ki] at aT;subst aT;exact⟨r,rfl,a9,cl,h.hU.ok.procs r (JT bm)⟩
 ·omega
 ·omega
 ·omega
 ·omega
theorem E5{P:Program}{e t:TypeId}{K:Act→World→Prop}{Q:Exit→Act→World→Prop}(bk:bX P t e z size bytes)(s x:Operand)
  (a8:o.op=.call {callee:=.builtin .append,args:=#[s,x],argTypes:=#[t,t]})
  {A:Kr} {n c g:Nat} {xs:List Value} {F:List Nat} (h0:Own J e size A n c xs F) {cs:Array Value} {i:TypeId} (aL:af J g i cs)
  (hs:a.eval s=.slice A n c) (hx:a.eval x=.slice (some ⟨g,0,none⟩) 1 1) (T:cs.size=size) (ae:∀u∈cs.toList,u.oneCell'=true)
  (y:(n+1)*bytes≤140737488355328) (C:n+1≤140737488355328)
  (h:∀I az ac,Own ac e size I (n+1) az (xs++cs.toList) (bt I (n+1) az)→Fr (fun b=>b∈F) J ac→(∀b∈bt I (n+1) az,b∈F∨(J.heap.size≤b∧b<ac.heap.size))→K (a.put o.dst (.slice I (n+1) az)) ac):o.wp P a J K Q:=by
 have av:Src J size (some ⟨g,0,none⟩) 1 cs.toList:=⟨by simpa using T,ae,fun _=>⟨g,0,rfl,fun j u bc=>by
  rw[J8,aL.cell];simpa using bc⟩⟩
 refine jZ _ bk s x a8 0 _ n xs hs h0.row _ 1 1 cs.toList hx av y C (Kc _) (fun h=>nomatch h) fun G ac bE cx H=>?_;obtain⟨I,az,rfl,hc,_⟩:=bs bE;refine h I az ac ⟨bE,rfl⟩ (Kn.grown cx fun g aJ=>.inl (by rw[h0.eq];simp[aJ])) fun b O=>?_;have aW:(Value.slice I (n+1) az).ownBlock=some b:=by simpa using O
 rcases H with H|H
 ·rw[H] at aW;exact .inl (by rw[h0.eq];simp[aW])
 ·have:=(bE.lt b aW).2;rw[H] at aW;injection aW with aW;right;omega
theorem vM{P:Program}{ops:Array Oper}{Q:Exit→Act→World→Prop}{R:World→World→Prop}{rest:List (Nat×Nat)}{W:World}(C:World→Prop)(hC:C W)(h:∀V,C V→bT P ops Q R rest a V):bT P ops Q R rest a W:=h W hC
theorem Df{s:ah}{bP:an}(h:s.threads[t.toNat]?=some (fs++[f])):pY (bH s t bP) t Y={s with threads:=(s.threads.set t.toNat (fs++[bP])).set t.toNat (fs++[bP]++[Y])}:=by
 rw[kZ h];unfold pY;have aw:=(List.getElem?_eq_some_iff.1 h).1;rw[kW (x:=fs++[bP]) (by simp[aw])]
theorem sY{P:Program}{e t:TypeId}{ops:Array Oper}{rest:List Oper}{Q:Exit→Act→World→Prop}(bk:bX P t e z size bytes)(i:o.guard=none)(s x:Operand)
  (a8:o.op=.call {callee:=.builtin .append,args:=#[s,x],argTypes:=#[t,t]})
  {A:Kr} {n c g:Nat} {xs:List Value} {F:List Nat} (h0:Own J e size A n c xs F) {cs:Array Value}
  (hs:a.eval s=.slice A n c) (hx:a.eval x=.slice (some ⟨g,0,none⟩) 1 1) (aJ:g=J.heap.size) (T:cs.size=size) (ae:∀u∈cs.toList,u.oneCell'=true)
  (y:(n+1)*bytes≤140737488355328) (C:n+1≤140737488355328)
  (h:∀I az ac,Own ac e size I (n+1) az (xs++cs.toList) (bt I (n+1) az)→Fr (fun b=>b∈F) J ac→(∀b∈bt I (n+1) az,b∈F∨(J.heap.size≤b∧b<ac.heap.size))→wpList P ops Q rest (a.put o.dst (.slice I (n+1) az)) ac):wpList P ops Q (o::rest) a (J.alloc (.cells cs e)):=by
 subst aJ;exact uA bk i s x a8 h0 hs hx T ae y C h
section
variable {B:Nat} {w ac:World} {s:ah} {r:Nat} {q:SV} {xs:List Value} {F1 F2 L S:List Nat}
theorem j1.Ds{α:Type}{E:World→α→List Value→List Nat→Prop}{w:World}:∀{l:List α} {xs:List Value} {F:List Nat},j1 E w l xs F→∀{k:Nat} {a:α},l[k]?=some a→
  ∃Z x ax F1 f F2,xs=Z++(x++ax)∧F=F1++(f++F2)∧j1 E w (l.take k) Z F1∧E w a x f∧j1 E w (l.drop (k+1)) ax F2
 | [],_,_,_,k,a,aj=>by simp at aj
 | b::l,xs,F,h,0,a,aj=>by
  obtain⟨x,y,F1,F2,rfl,rfl,ae,aC⟩:=h;simp only[List.getElem?_cons_zero,Ki] at aj;subst aj
  exact⟨[],x,y,[],F1,F2,rfl,rfl,⟨rfl,rfl⟩,ae,aC⟩
 | b::l,xs,F,h,k+1,a,aj=>by
  obtain⟨br,y,g,Y,rfl,rfl,ae,aC⟩:=h;simp only[List.getElem?_cons_succ] at aj;obtain⟨Z,x,ax,F1,f,F2,rfl,rfl,aT,a9,cl⟩:=j1.Ds aC aj;exact⟨br++Z,x,ax,g++F1,f,F2,by simp,by simp,⟨br,Z,g,F1,rfl,rfl,ae,aT⟩,a9,cl⟩
theorem pE{α β:Type}(g:α→β):∀(l:List α) (k:Nat) (x:α),(l.set k x).map g=(l.map g).set k (g x)
 | [],_,_=>rfl
 | _::_,0,_=>rfl
 | a::l,k+1,x=>by simp[pE g l k x]
namespace A6
theorem z1{p:Prop}(h:p:=by
 have nd:=h.st.nd;have n1:=vD.1 nd;have d3:∀b∈F1++(F2++S),b∉L:=fun b O aT=>(List.nodup_append.1 n1).2.2 b aT b O rfl;have cH:∀b,b∈L→b∈F1++(F2++(L++S)):=fun b O=>by simp[O]
 have bB:∀b,b∈F1++(F2++S)→b∈F1++(F2++(L++S)):=fun b O=>by
  exact FI
 have v:∀b,b<aN.heap.size→b≠r→b∉L→X.heap[b]?=aN.heap[b]?:=fun b aw a1 aT=>by
  rw[←hX];exact(aL a1).trans (aD.block b aw aT)
 have i:∀b∈F1++(F2++S),X.heap[b]?=w.heap[b]?:=fun b O=>by
  have hl:=(h.lo b (bB b O)).2;exact(v b ab (fun he=>h.ne (he▸bB b O)) (d3 b O)).trans (aG.block b hl fun h=>h)
 have a:∀b,b∈F1++(F2++S)→B≤b∧b<X.heap.size∧b≠r:=fun b O=>⟨(h.lo b (bB b O)).1,by have:=(h.lo b (bB b O)).2;omega,fun he=>h.ne (he▸bB b O)⟩
 have cV:=h.o.lt;have G:∀b,P b→X.heap[b]?=w.heap[b]?:=fun b O=>by
  obtain⟨_,aC,aT,a9⟩:=aY b O;exact(v b ab aT (fun cl=>a9 (cH b cl))).trans (aG.block b aC fun h=>h)
 have m:B≤w.heap.size:=by have:=h.go;omega
 have o:af X w.heap.size 100 #[c0,c1,c2,c3]:=(v _ ab ab (fun cl=>by have:=(h.lo _ (cH _ cl)).2;omega)).trans A;have ch:(hh Y).rep X (fun b=>B≤b∧b<X.heap.size∧b≠r) [c0,c1,c2,c3]:=D.aF (fun b O=>by obtain⟨ae,aC,aT,_⟩:=aY b O;exact⟨ae,ab,aT⟩) _ _ (D.aN G _ _ bh);have bT:Sl X (fun b=>B≤b∧b<X.heap.size∧b≠r) (some ⟨w.heap.size,0,none⟩) 1 ([Y].map hh):=⟨rfl,fun _=>⟨w.heap.size,0,[c0,c1,c2,c3],rfl,⟨m,ab,ab⟩,by simp only[JW,Kd];exact D.bj.2 ch,fun j u hu=>by
  rw[J8,o.cell];simpa using hu⟩⟩
 have d:∀b∈bt I (q.hn+1) az,b≠r:=fun b O=>by
  rcases T b O with ae|ae
  ·exact fun he=>h.ne (he▸cH b ae)
  ·omega
 have e:Own X 52 1 I (q.hn+1) az (xs++[.slice (some ⟨w.heap.size,0,none⟩) 1 1]) (bt I (q.hn+1) az):=aU.aj fun b O=>by rw[←hX];exact aL (d b O)
 refine⟨⟨⟨?_,?_,?_⟩,h.st.g.cap,h.st.t.cap,aU.cap⟩,?_,?_⟩
 ·exact(h.st.g.aj fun b O=>i b (by simp only[JZ];exact .inl O)).sl (cy _) (by rw[JU];exact h.st.gl.symm) fun b O=>a b (by simp only[JZ];exact .inl O)
 ·exact(h.st.t.aj fun b O=>i b (by simp only[JZ];exact .inr (.inl O))).sl (dD _) (by rw[JU];exact h.st.tl.symm) fun b O=>a b (by simp only[JZ];exact .inr (.inl O))
 ·have hold:D.aI X (fun b=>B≤b∧b<X.heap.size∧b≠r) (s.threads.map mg) xs:=(h.st.hs.aj nW.aj fun b O=>i b (by simp only[JZ];exact .inr (.inr O))).aI nW.rep fun b O=>a b (by simp only[JZ];exact .inr (.inr O));refine e.sl (l:=(s.threads++[[Y]]).map mg) (by rw[JX];exact D.cA hold (D.bj.2 (e5.2 ⟨_,1,1,rfl,JQ _,bT⟩))) (by simp[h.st.hl]) fun b O=>?_;refine⟨?_,(e.lt b O),d b O⟩;rcases T b O with ae|ae
  ·exact(h.lo b (cH b ae)).1
  ·omega
 ·have:=(h.o.ak aG).on aD fun aT=>h.ne (cH _ aT);rw[←hX];exact this.aC 2 _
 ·rw[←hX];exact Fr.setCell (Fr.trans (Fr.mono aG fun _ h=>h.elim) (Fr.mono aD fun b O=>(h.lo b (cH b O)).1)) (.inl h.go) _
 ):p:=h
end A6
open A6 in
theorem fi.start(h:fi B w s r q xs F1 F2 L S){P:Nat→Prop}(bh:(hh Y).rep w P [c0,c1,c2,c3])(aY:∀b,P b→B≤b∧b<w.heap.size∧b≠r∧b∉F1++(F2++(L++S)))
  {aN aO X:World} (aX:w.alloc (.cells #[c0,c1,c2,c3] 100)=aN) {I:Kr} {az:Nat}
  (aU:Own aO 52 1 I (q.hn+1) az (xs++[.slice (some ⟨w.heap.size,0,none⟩) 1 1]) (bt I (q.hn+1) az)) (aD:Fr (fun b=>b∈L) aN aO) (T:∀b∈bt I (q.hn+1) az,b∈L∨(aN.heap.size≤b∧b<aO.heap.size))
  (hX:aO.setCell ⟨r,2,none⟩ (.slice I (q.hn+1) az)=X) :
  let aq:SV:=⟨q.GA,q.gn,q.gc,q.TA,q.tn,q.tc,I,q.hn+1,az⟩
  let aV:ah:={s with threads:=s.threads++[[Y]]}
  aq.Is X (fun b=>B≤b∧b<X.heap.size∧b≠r) aV∧af X r 30 (aq.val aV)∧Fr (fun b=>B≤b) w X:=by
 intro aq aV;exact z0
theorem fi.push(h:fi B w s r q xs F1 F2 L S){k:Nat}(bm:s.threads[k]?=some (fs++[f])):
  ∃O b2 fc br,q.HA=some ⟨O,0,none⟩∧k<q.hn∧O∈F1++(F2++(L++S))∧b2∈F1++(F2++(L++S))∧O<w.heap.size∧b2<w.heap.size∧B≤O∧B≤b2∧O≠b2∧O≠r∧b2≠r∧(∀j,w.frozen? ⟨O,j,none⟩=false)∧w.cell? ⟨O,k,none⟩=some (.slice (some ⟨b2,0,none⟩) (fs.length+1) fc)∧
   Own w 100 4 (some ⟨b2,0,none⟩) (fs.length+1) fc br [b2]∧
   ∀(Y:an) (cs:List Value) (P:Nat→Prop) (I:Kr) (az:Nat) (aO X:World),(hh Y).rep w P cs→(∀b,P b→B≤b∧b<w.heap.size∧b≠r∧b∉F1++(F2++(L++S)))→
    Own aO 100 4 I (fs.length+2) az (br++cs) (bt I (fs.length+2) az)→Fr (fun b=>b=b2) w aO→(∀b∈bt I (fs.length+2) az,b=b2∨(w.heap.size≤b∧b<aO.heap.size))→
    aO.setCell ⟨O,k,none⟩ (.slice I (fs.length+2) az)=X→
    q.Is X (fun b=>B≤b∧b<X.heap.size∧b≠r) {s with threads:=s.threads.set k (fs++[f]++[Y])}∧af X r 30 (q.val s)∧Fr (fun b=>B≤b) w X:=by
 obtain⟨Z,x,ax,av,K,g,bY,R,E,aR,b3⟩:=h.st.hs.Ds bm;obtain⟨FA,n,c,br,bp,a7,rfl,rfl,a3,a8,aD⟩:=aR;have dE:Z.length=k:=by have:=E.len nW.len;rw[List.length_take,Nat.mul_one] at this;have:=(List.getElem?_eq_some_iff.1 bm).1;omega
 have bN:k<s.threads.length:=(List.getElem?_eq_some_iff.1 bm).1;have J:k<q.hn:=by rw[h.st.hl];exact bN
 obtain rfl:n=fs.length+1:=by simpa using a3
 obtain⟨b2,rfl,rfl,ch,F,bK,aZ⟩:=a8.block ab;obtain⟨O,sj,bq,bO,o,t,A⟩:=h.st.h.block ab;subst R bq;have nd:=h.st.nd;have nf:∀b∈(F1++(F2++([O]++av)))++(a7++g),b≠b2:=ep (by simpa[J4] using nd);have z:∀b∈(F1++F2)++(av++(b2::(a7++g))),b≠O:=ep (by simpa[J4] using nd);have l:O∈F1++(F2++([O]++(av++(([b2]++a7)++g)))):=by simp
 have bV:b2∈F1++(F2++([O]++(av++(([b2]++a7)++g)))):=by simp
 have aV:=o k (.slice (some ⟨b2,0,none⟩) (fs.length+1) c) (by rw[bY,List.getElem?_append_right ab,dE,Nat.sub_self];rfl);refine⟨O,b2,c,br,sj,J,l,bV,bO,ch,(h.lo _ l).1,(h.lo _ bV).1,nf O (by simp),fun he=>h.ne (he▸l),fun he=>h.ne (he▸bV),t,aV,a8,?_⟩;intro Y cs P I az aO X bh aY aU H T hX;have bz:=H.size;have co:X.heap.size=aO.heap.size:=by rw[←hX];simp[World.setCell]
 have v:∀b,b<w.heap.size→b≠O→b≠b2→X.heap[b]?=w.heap[b]?:=fun b aw a1 aT=>by
  rw[←hX];exact(aL a1).trans (H.block b aw aT)
 have mem:∀b,b∈F1++(F2++(av++(a7++g)))→b∈F1++(F2++([O]++(av++(([b2]++a7)++g)))):=fun b O=>by
  simp only[JZ] at O ⊢;rcases O with O|O|O|O|O
  ·exact .inl O
  ·exact .inr (.inl O)
  ·exact .inr (.inr (.inr (.inl O)))
  ·exact .inr (.inr (.inr (.inr (.inl (.inr O)))))
  ·exact .inr (.inr (.inr (.inr (.inr O))))
 have i:∀b∈F1++(F2++(av++(a7++g))),X.heap[b]?=w.heap[b]?:=fun b O=>by
  refine v b (h.lo b (mem b O)).2 (z b ?_) (nf b ?_)
  ·simp only[JZ,J6] at O ⊢;rcases O with O|O|O|O|O<;>simp[O]
  ·simp only[JZ] at O ⊢;rcases O with O|O|O|O|O<;>simp[O]
 have a:∀b,b∈F1++(F2++(av++(a7++g)))→B≤b∧b<X.heap.size∧b≠r:=fun b O=>⟨(h.lo b (mem b O)).1,by have:=(h.lo b (mem b O)).2;omega,fun he=>h.ne (he▸mem b O)⟩
 have G:∀b,P b→X.heap[b]?=w.heap[b]?:=fun b aW=>by
  obtain⟨_,aC,aT,a9⟩:=aY b aW;exact v b aC (fun he=>a9 (he▸l)) (fun he=>a9 (he▸bV))
 have cV:=h.o.lt;have d:∀b∈bt I (fs.length+2) az,b≠r∧b≠O:=fun b aW=>by
  rcases T b aW with ae|ae
  ·rw[ae];exact⟨fun he=>h.ne (he▸bV),fun he=>nf O (by simp) he.symm⟩
  ·exact⟨ab,ab⟩
 have e:Own X 100 4 I (fs.length+2) az (br++cs) (bt I (fs.length+2) az):=aU.aj fun b aW=>by rw[←hX];exact aL (d b aW).2
 have u:(hh Y).rep X (fun b=>B≤b∧b<X.heap.size∧b≠r) cs:=D.aF (fun b O=>by obtain⟨ae,aC,aT,_⟩:=aY b O;exact⟨ae,ab,aT⟩) _ _ (D.aN G _ _ bh);have y:D.aI X (fun b=>B≤b∧b<X.heap.size∧b≠r) ((fs++[f]).map hh) br:=(aD.aj oJ.aj fun b O=>i b (by simp[O])).aI oJ.rep fun b O=>a b (by simp[O]);have C:Sl X (fun b=>B≤b∧b<X.heap.size∧b≠r) I (fs.length+2) ((fs++[f]++[Y]).map hh):=e.sl (by rw[JX];exact D.cA y (D.bj.2 u)) (by simp) fun b aW=>⟨by
  rcases T b aW with ae|ae
  ·rw[ae];exact(h.lo _ bV).1
  ·have:=h.go;omega,e.lt b aW,(d b aW).1⟩
 refine⟨⟨⟨?_,?_,?_⟩,h.st.g.cap,h.st.t.cap,h.st.h.cap⟩,?_,?_⟩
 ·exact(h.st.g.aj fun b O=>i b (by simp only[JZ];exact .inl O)).sl (cy _) (by simp[h.st.gl]) fun b O=>a b (by simp only[JZ];exact .inl O)
 ·exact(h.st.t.aj fun b O=>i b (by simp only[JZ];exact .inr (.inl O))).sl (dD _) (by simp[h.st.tl]) fun b O=>a b (by simp only[JZ];exact .inr (.inl O))
 ·
  have vq:Own X 52 1 q.HA q.hn q.hc (xs.set k (.slice I (fs.length+2) az)) [O]:=by
   have ae:Own aO 52 1 q.HA q.hn q.hc xs [O]:=h.st.h.aj fun b aW=>H.block b (aH (Kh.1 aW)) (by have:=Kh.1 aW;rw[this];exact nf O (by simp));obtain⟨bx,he,bI,_,_,_,aq⟩:=ae.block ab;have:bx=O:=by rw[sj] at he;injection he with he;injection he with he _;exact he.symm
   subst this;rw[←hX];exact aq k _ ab
  have m:D.aI X (fun b=>B≤b∧b<X.heap.size∧b≠r) ((s.threads.set k (fs++[f]++[Y])).map mg) (xs.set k (.slice I (fs.length+2) az)):=by
   have e1:xs.set k (.slice I (fs.length+2) az)=Z++([.slice I (fs.length+2) az]++ax):=by
    rw[bY,List.set_append_right _ _ ab,dE,Nat.sub_self];rfl
   have e2:s.threads.set k (fs++[f]++[Y])=s.threads.take k++((fs++[f]++[Y])::s.threads.drop (k+1)):=List.set_eq_take_append_cons_drop.trans (by rw[if_pos bN]);rw[e1,e2,JX,JW];refine D.cA ((E.aj nW.aj fun b O=>i b (by simp[O])).aI nW.rep fun b O=>a b (by simp[O])) ?_;simp only[D.aI];exact⟨_,_,rfl,e5.2 ⟨_,_,_,rfl,e.cap,C⟩,(b3.aj nW.aj fun b O=>i b (by simp[O])).aI nW.rep fun b O=>a b (by simp[O])⟩
  exact vq.sl m (by simp[h.st.hl]) fun b aW=>by rw[Kh.1 aW];exact⟨(h.lo _ l).1,ab,fun he=>h.ne (he▸l)⟩
 ·have:=h.o.on H fun he=>h.ne (he▸bV);rw[←hX];exact this.IP (fun he=>h.ne (he▸l)) _
 ·rw[←hX];exact Fr.setCell (Fr.mono H fun b aW=>by rw[aW];exact(h.lo _ bV).1) (.inl (h.lo _ l).1) _
end
structure IZ(u:av)(s:ah)(t:Int)(f:an)(x:ay)(a b:List Int×Int):Prop where
 H4:a.2≠0→cj u s t f x=({s with fault:=a.2},true)
 H5:a.2=0→b.2≠0→cj u s t f x=({s with fault:=b.2},true)
 many:a.2=0→b.2=0→x.op=3→32≤s.threads.length→cj u s t f x=({s with fault:=4},true)
 go:a.2=0→b.2=0→x.op=3→¬32≤s.threads.length→cj u s t f x=({bH s t (next f) with threads:=(bH s t (next f)).threads++[[dV u x.target a.1 b.1]]},true)
 call:a.2=0→b.2=0→x.op=2→cj u s t f x=(pY (bH s t (next f)) t (dV u x.target a.1 b.1),true)
theorem Jd{s:ah}(aE:x.op=2∨x.op=3):IZ u s t f x (cV s.globals f.ints x.ints) (b3 u s f x.places):=by
 have h0:cj u s t f x=(if bO (cV s.globals f.ints x.ints).2 (b3 u s f x.places).2 (decide (x.op=3∧32≤s.threads.length))≠0 then ({s with fault:=bO (cV s.globals f.ints x.ints).2 (b3 u s f x.places).2 (decide (x.op=3∧32≤s.threads.length))},true)
  else if x.op=3 then ({bH s t (next f) with threads:=(bH s t (next f)).threads++[[dV u x.target (cV s.globals f.ints x.ints).1 (b3 u s f x.places).1]]},true)
  else (pY (bH s t (next f)) t (dV u x.target (cV s.globals f.ints x.ints).1 (b3 u s f x.places).1),true)):=by
  unfold cj;rw[if_neg ab,if_pos aE]
 generalize cV s.globals f.ints x.ints=a at *;generalize b3 u s f x.places=b at *;refine⟨fun h=>?_,fun h ae=>?_,fun h ae aT R=>?_,fun h ae aT R=>?_,fun h ae aC=>?_⟩
 ·have:bO a.2 b.2 (decide (x.op=3∧32≤s.threads.length))=a.2:=by unfold bO;rw[if_pos h]
  rw[h0,this,if_pos h]
 ·have:bO a.2 b.2 (decide (x.op=3∧32≤s.threads.length))=b.2:=by unfold bO;rw[if_neg ab,if_pos ae]
  rw[h0,this,if_pos ae]
 ·have:bO a.2 b.2 (decide (x.op=3∧32≤s.threads.length))=4:=by unfold bO;rw[if_neg ab,if_neg ab,if_pos (by simp[aT,R])]
  rw[h0,this,if_pos ab]
 ·have:bO a.2 b.2 (decide (x.op=3∧32≤s.threads.length))=0:=by unfold bO;rw[if_neg ab,if_neg ab,if_neg (by simp;omega)]
  rw[h0,this,if_neg ab,if_pos aT]
 ·have:bO a.2 b.2 (decide (x.op=3∧32≤s.threads.length))=0:=by unfold bO;rw[if_neg ab,if_neg ab,if_neg (by simp;omega)]
  rw[h0,this,if_neg ab,if_neg ab]
theorem aS.tok{s:ah}(h:aS u N s)(hN:N≤100000):F8 u.ae s.table:=by
 refine⟨h.table,fun x hx=>?_⟩;obtain⟨i,al⟩:=List.getElem?_of_mem hx;have aQ:=h.holds i x al;have:=aQ.owner;have:=aQ.depth;have:=h.ys;omega
theorem fi.HT{B:Nat}{w X:World}{s:ah}{r:Nat}{q:SV}{xs:List Value}{F1 F2 L S:List Nat}(h:fi B w s r q xs F1 F2 L S){T:List db}{c:Kr}{l aO:Nat}(hT:w.ownsRow 0 83 2 (.slice c l aO) l (T.flatMap cz))(hl:l=T.length)
  (hd:∀b∈bt c l aO,b∉F1++(F2++(L++S))∧b≠r∧B≤b) (hX:w.setCell ⟨r,1,none⟩ (.slice c l aO)=X):fi B X {s with table:=T} r ⟨q.GA,q.gn,q.gc,c,l,aO,q.HA,q.hn,q.hc⟩ xs F1 (bt c l aO) L S:=by
 have ae:=h.st.HT hT hl fun b O=>(hd b O).1;have aw:∀b∈bt c l aO,b<w.heap.size:=fun b O=>(hT.lt b (by simpa using O)).2;have bQ:∀b,b∈F1++(bt c l aO++(L++S))→B≤b∧b<w.heap.size∧b≠r:=fun b O=>by
  simp only[JZ] at O;have aQ:∀b,b∈F1++(F2++(L++S))→B≤b∧b<w.heap.size∧b≠r:=fun b O=>⟨(h.lo b O).1,(h.lo b O).2,fun he=>h.ne (he▸O)⟩
  rcases O with O|O|O|O
  ·exact aQ b (by simp[O])
  ·exact⟨(hd b O).2.2,aw b O,(hd b O).2.1⟩
  ·exact aQ b (by simp[O])
  ·exact aQ b (by simp[O])
 subst hX;refine⟨ae.aj fun b O=>aL (bQ b O).2.2,?_,fun aJ=>(bQ r aJ).2.2 rfl,fun b O=>⟨(bQ b O).1,by simpa[World.setCell] using (bQ b O).2.1⟩,h.go⟩;exact h.o.aC 1 _
structure I1(u:av)(s:ah)(t:Int)(f:an)(x:ay)(r:Int×Int):Prop where
 bad:r.2≠0→cj u s t f x=({s with fault:=r.2},true)
 lf:r.2=0→x.op=4→free u.ae s.table r.1 t=true→cj u s t f x=({bH s t (next f) with table:=hq u.ae s.table r.1 t},true)
 ln:r.2=0→x.op=4→free u.ae s.table r.1 t=false→cj u s t f x=(s,false)
 uf:r.2=0→x.op=5→heldBy u.ae s.table r.1 t=true→cj u s t f x=({bH s t (next f) with table:=dI u.ae s.table r.1 t},true)
 un:r.2=0→x.op=5→heldBy u.ae s.table r.1 t=false→cj u s t f x=({s with fault:=3},true)
theorem Jf{s:ah}(aE:x.op=4∨x.op=5):I1 u s t f x (bk u s f x.place):=by
 have h0:cj u s t f x=(if (bk u s f x.place).2≠0 then ({s with fault:=(bk u s f x.place).2},true)
  else if x.op=4 then (if free u.ae s.table (bk u s f x.place).1 t then ({bH s t (next f) with table:=hq u.ae s.table (bk u s f x.place).1 t},true) else (s,false))
  else (if heldBy u.ae s.table (bk u s f x.place).1 t then ({bH s t (next f) with table:=dI u.ae s.table (bk u s f x.place).1 t},true) else ({s with fault:=3},true))):=by
  unfold cj;rw[if_neg ab,if_neg ab,if_pos aE]
 generalize bk u s f x.place=r at *;refine⟨fun h=>?_,fun h ae aC=>?_,fun h ae aC=>?_,fun h ae aC=>?_,fun h ae aC=>?_⟩
 ·rw[h0,if_pos h]
 ·rw[h0,if_neg ab,if_pos ae,if_pos aC]
 ·rw[h0,if_neg ab,if_pos ae,if_neg (by simp[aC])]
 ·rw[h0,if_neg ab,if_neg ab,if_pos aC]
 ·rw[h0,if_neg ab,if_neg ab,if_neg (by simp[aC])]
theorem fi.drew{B:Nat}{w:World}{s:ah}{r:Nat}{q:SV}{xs:List Value}{F1 F2 L S:List Nat}(h:fi B w s r q xs F1 F2 L S):fi B w.drew s r q xs F1 F2 L S:=h.ak Kn.drew
theorem Ew{s:ah}(h:s.threads[t.toNat]?=some (fs++[f])):yf s t={s with threads:=s.threads.set t.toNat fs}:=by
 unfold yf;rw[kW h,kh]
theorem v3{s:ah}(h:dE s t=some f)(hx:dg u s t=some x):cd u s t=cj u s t f x:=by
 unfold cd;rw[h,hx]
theorem vZ{s:ah}(h:dE s t=none):cd u s t=(s,false):=by
 unfold cd;rw[h]
theorem EV{s:ah}(h:x.op=7):cj u s t f x=(bH s t {f with pc:=x.target},true):=by
 unfold cj;rw[if_neg ab,if_neg ab,if_neg ab,if_pos h]
theorem EW{s:ah}(h:x.op=8):cj u s t f x=(yf s t,true):=by
 unfold cj;rw[if_neg ab,if_neg ab,if_neg ab,if_neg ab]
def Hf(P:Nat→Prop)(w:World)(s:ah)(e:Ending)(ac:World):Prop:=∃q:SV,e=.returned (.agg (q.val s))∧q.Is ac (fun k=>P k∨(w.heap.size≤k∧k<ac.heap.size)) s∧Ext w ac
theorem En(u:av):ew u=⟨u.globals,List.replicate (own u.ae).length ⟨0,0⟩,[[dV u u.main [] []]],0⟩:=rfl
theorem cC.below{α:Type}{f:α→List Value}{sz:Nat}{w ac:World}{B:Nat}{A:Kr}{l:List α}(h:cC (EF f) sz w B A n l)(aj:∀b,b<B→ac.heap[b]?=w.heap[b]?):cC (EF f) sz ac B A n l:=by
 refine⟨h.1,fun hn=>?_⟩;obtain⟨b,o,bk,O,hc⟩:=h.2 hn;refine⟨b,o,bk,O,fun k x hx=>?_⟩;obtain⟨cs,he,hl,bc⟩:=hc k x hx;exact⟨cs,he,hl,fun j v bD=>(World.cell?_of_block (w:=w) (aj b O)).trans (bc j v bD)⟩
end Go.Proofs.YtbkhhfajcgkpgaaGreat
