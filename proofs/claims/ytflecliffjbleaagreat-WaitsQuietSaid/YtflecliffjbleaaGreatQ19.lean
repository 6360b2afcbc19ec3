/- Part 19 of the proof. No condition of its own. -/
import Derived.Test.YtflecliffjbleaaGreatQ18
namespace Go.Proofs.YtflecliffjbleaaGreat
open Go.RowKit Go.Proofs.Tryz
set_option maxRecDepth 1000000
set_option maxHeartbeats 25600000
set_option linter.unusedVariables false
variable{a:Act}{t:Int}{fs:List al}{bytes n size:Nat}{o:Oper}{e:VE}{c0 c1 c2 c3 z:Value}{S:World}{Y f:al}{u:av}{x:ay}
structure lI(u:av)(s:ag)(t:Int)(f:al)(Q:di)(x:ay)(N:Nat):Prop where
 hU:zo u
 hS:aS u N s
 sm:Small s
 ht:da s t=some f
 hF:b0 u f
 hp:u.procs[f.proc.toNat]?=some Q
 hx:Q.code[f.pc.toNat]?=some x
 ok:∃len:Nat,Q.code.length=len+1/\hR (bj u) Q.locals Q.aw len x
 nx:x.op≠8->f.pc+1<Q.code.length
 pc:0<=f.pc/\f.pc<=201
 il:x.ints.length<=200
 kl:x.places.length<=200
theorem lI.of{s:ag}{N:Nat}(hU:zo u)(hS:aS u N s)(hN:N<=100000)(ht:da s t=some f):∃Q x,lI u s t f Q x N/\cV u s t=some x:=by
 obtain⟨hF,_,_⟩:=hS.top ht;obtain⟨Q,x,hp,hx,ae,aD,aU,a1,cd,o,C,cD,aG⟩:=hU.IN hF;have hc:=aG.code;obtain⟨c,b9,bR,_⟩:=hc;have hl:Q.code.length=c.length+1:=by rw[b9];simp
 exact⟨Q,x,⟨hU,hS,hS.small hU.ok hN,ht,hF,hp,hx,cd,cD,⟨a1,ab⟩,o,C⟩,um ht hp hx⟩
theorem lI.IK{s:ag}{Q:di}{N:Nat}(h:lI u s t f Q x N)(he:fY (bj u) Q.locals e){w:World}{GA IA:LP}{gn i:Nat}
  (aK:Sl w (au w) GA gn (s.globals.map .i)) (ak:Sl w (au w) IA i (f.ints.map .i)) (aQ:(bf e).rep w (au w) [c0,c1,c2,c3]):lY w GA IA gn i s.globals f.ints e [c0,c1,c2,c3]/\n7 s.globals f.ints e:=by
 obtain⟨bl,a,_⟩:=xU h.hS h.hF h.hp he;have ae:=aK.1;have aD:=ak.1;rw[Lf] at ae aD;exact⟨⟨aK.ints,ak.ints,by rw[<-ae,<-aD];exact bl,kG e _ aQ⟩,a⟩
structure Ka(u:av)(s:ag)(t:Int)(f:al)(x:ay)(r:Int×Int):Prop where
 bad:r.2≠0->cu u s t f x=({s with fault:=r.2},true)
 bz:r.2=0->x.op=6->r.1=0->cu u s t f x=(bO s t {f with pc:=x.target},true)
 bn:r.2=0->x.op=6->r.1≠0->cu u s t f x=(bO s t (next f),true)
 gl:r.2=0->x.op=1->x.dw=true->cu u s t f x=({bO s t (next f) with globals:=s.globals.set x.target.toNat r.1},true)
 lo:r.2=0->x.op=1->x.dw=false->cu u s t f x=(bO s t {next f with ints:=f.ints.set x.target.toNat r.1},true)
theorem Ko{s:ag}(he:x.expr=some e)(aG:x.op=1\/x.op=6):Ka u s t f x (ev s.globals f.ints e):=by
 have h0:cu u s t f x=(if (ev s.globals f.ints e).2≠0 then ({s with fault:=(ev s.globals f.ints e).2},true)
  else if x.op=6 then (bO s t (if (ev s.globals f.ints e).1=0 then {f with pc:=x.target} else next f),true)
  else if x.dw then ({bO s t (next f) with globals:=s.globals.set x.target.toNat (ev s.globals f.ints e).1},true)
  else (bO s t {next f with ints:=f.ints.set x.target.toNat (ev s.globals f.ints e).1},true)):=by
  unfold cu;rw[if_pos aG,he];rfl
 generalize ev s.globals f.ints e=r at *;refine⟨λh=>?_,λh o ba=>?_,λh o ba=>?_,λh ae aK=>?_,λh ae aK=>?_⟩
 .rw[h0,if_pos h]
 .rw[h0,if_neg ab,if_pos o,if_pos ba]
 .rw[h0,if_neg ab,if_pos o,if_neg ba]
 .rw[h0,if_neg ab,if_neg ab,if_pos aK]
 .rw[h0,if_neg ab,if_neg ab,if_neg (by simp[aK])]
theorem lI.th{s:ag}{Q:di}{N:Nat}(h:lI u s t f Q x N):s.fault=0/\0<=t/\t<s.threads.length/\∃fs,s.threads[t.toNat]?=some (fs++[f])/\fs.length<=1000000:=by
 obtain⟨h0,ae,fs,br⟩:=jN h.ht;have:=(List.getElem?_eq_some_iff.1 br).1;exact⟨h0,ae,ab,fs,br,by have:=(h.sm.f _ (Le br)).1;simp at this;omega⟩
section
variable {P:Program} {ops:Array Oper} {Q:Exit->Act->World->Prop} {R:World->World->Prop} {tails:List Nat}
end
section
variable {P:Program} {ops:Array Oper} {Q:Exit->Act->World->Prop} {R:World->World->Prop} {tails:List Nat}
end
theorem an.sl{w:World}{g:Nat}{l:List Int}(h:an w g 3 (l.map eJ).toArray)(hn:l.length=n){P:Nat->Prop}(aY:P g):Sl w P (some ⟨g,0,none⟩) n (l.map D.i):=by
 refine⟨by simpa using hn,λ_=>⟨g,0,l.map eJ,rfl,aY,cF l,λj u hu=>?_⟩⟩;rw[Lt,h.cell];simpa using hu
def DB(g l:List Int)(es:List VE)(k:Nat):Prop:=∀e∈es.take k,(ev g l e).2=0
theorem rZ{g l:List Int}:∀{es:List VE},(∀e∈es,(ev g l e).2=0)->db g l es=(es.map λe=>(ev g l e).1,0)
 | [],_=>rfl
 | e::es,h=>by
  have ae:=h e (by simp);have aD:=rZ (es:=es) λx hx=>h x (by simp[hx]);unfold db;rw[if_neg ab,aD,if_neg (by simp)];rfl
theorem rY{g l:List Int}:∀{es:List VE} {k:Nat} {e:VE},DB g l es k->es[k]?=some e->(ev g l e).2≠0->db g l es=([],(ev g l e).2)
 | [],k,e,_,h,_=>by simp at h
 | x::es,0,e,_,h,O=>by
  simp at h;subst h;unfold db
  rw[if_pos O]
 | x::es,k+1,e,hu,h,O=>by
  have ae:(ev g l x).2=0:=hu x (by simp);have aD:=rY (es:=es) (k:=k) (e:=e) (λy a4=>hu y (by simp[a4])) (by simpa using h) O;unfold db;rw[if_neg ab,aD,if_pos O]
theorem ql{u:av}{s:ag}{f:al}:∀{ps:List bJ},(∀p∈ps,(bp u s f p).2=0)->cf u s f ps=(ps.map λp=>(bp u s f p).1,0)
 | [],_=>rfl
 | p::ps,h=>by
  have ae:=h p (by simp);have aD:=ql (ps:=ps) λx hx=>h x (by simp[hx]);unfold cf;rw[if_neg ab,aD,if_neg (by simp)];rfl
theorem qk{u:av}{s:ag}{f:al}:∀{ps:List bJ} {k:Nat} {p:bJ},(∀x∈ps.take k,(bp u s f x).2=0)->ps[k]?=some p->(bp u s f p).2≠0->cf u s f ps=([],(bp u s f p).2)
 | [],k,p,_,h,_=>by simp at h
 | x::ps,0,p,_,h,O=>by
  simp at h;subst h;unfold cf
  rw[if_pos O]
 | x::ps,k+1,p,hu,h,O=>by
  have ae:(bp u s f x).2=0:=hu x (by simp);have aD:=qk (ps:=ps) (k:=k) (p:=p) (λy a4=>hu y (by simp[a4])) (by simpa using h) O;unfold cf;rw[if_neg ab,aD,if_pos O]
theorem lI.args{s:ag}{Q:di}{N:Nat}(h:lI u s t f Q x N)(aG:x.op=2\/x.op=3):(∀e∈x.ints,fY (bj u) Q.locals e)/\(∀p∈x.places,cI (bj u) Q.locals Q.aw p)/\
  0<=x.target/\∃pc,u.procs[x.target.toNat]?=some pc/\(x.ints.length:Int)=pc.ints/\(x.places.length:Int)=pc.aw/\qH (bj u) pc:=by
 obtain⟨len,_,ak⟩:=h.ok;rcases ak with⟨ae,_⟩|⟨_,_,sg,aD,aU,a1,cd,o,C⟩|⟨ae,_⟩|⟨ae,_⟩|⟨ae,_⟩|⟨ae,_⟩
 .omega
 .refine⟨o,C,aD,?_⟩;simp only[bj,List.getElem?_map] at aU
  cases br:u.procs[x.target.toNat]? with
  | none=>rw[br] at aU;cases aU
  | some r=>
   rw[br] at aU;simp only[Option.map_some,LG] at aU;subst aU;exact⟨r,rfl,a1,cd,h.hU.ok.procs r (Le br)⟩
 .omega
 .omega
 .omega
 .omega
theorem F4{P:Program}{e t:TypeId}{K:Act->World->Prop}{Q:Exit->Act->World->Prop}(bp:ca P t e z size bytes)(s x:Operand)
  (bl:o.op=.call {callee:=.builtin .append,args:=#[s,x],argTypes:=#[t,t]})
  {A:LP} {n c g:Nat} {xs:List Value} {F:List Nat} (h0:Own S e size A n c xs F) {cs:Array Value} {i:TypeId} (aN:an S g i cs)
  (hs:a.eval s=.slice A n c) (hx:a.eval x=.slice (some ⟨g,0,none⟩) 1 1) (T:cs.size=size) (ae:∀u∈cs.toList,u.oneCell'=true)
  (y:(n+1)*bytes<=140737488355328) (C:n+1<=140737488355328)
  (h:∀I aA ac,Own ac e size I (n+1) aA (xs++cs.toList) (bA I (n+1) aA)->Fr (λb=>b∈F) S ac->(∀b∈bA I (n+1) aA,b∈F\/(S.heap.size<=b/\b<ac.heap.size))->K (a.put o.dst (.slice I (n+1) aA)) ac):o.wp P a S K Q:=by
 have av:Src S size (some ⟨g,0,none⟩) 1 cs.toList:=⟨by simpa using T,ae,λ_=>⟨g,0,rfl,λj u bd=>by
  rw[Lt,aN.cell];simpa using bd⟩⟩
 refine kf _ bp s x bl 0 _ n xs hs h0.row _ 1 1 cs.toList hx av y C (Lx _) (λh=>nomatch h) λG ac bJ aZ H=>?_;obtain⟨I,aA,rfl,hc,_⟩:=bx bJ;refine h I aA ac ⟨bJ,rfl⟩ (LL.grown aZ λg aK=>.inl (by rw[h0.eq];simp[aK])) λb O=>?_;have aX:(Value.slice I (n+1) aA).ownBlock=some b:=by simpa using O
 rcases H with H|H
 .rw[H] at aX;exact .inl (by rw[h0.eq];simp[aX])
 .have:=(bJ.lt b aX).2;rw[H] at aX;injection aX with aX;right;omega
theorem wL{P:Program}{ops:Array Oper}{Q:Exit->Act->World->Prop}{R:World->World->Prop}{rest:List (Nat×Nat)}{W:World}(C:World->Prop)(hC:C W)(h:∀V,C V->bW P ops Q R rest a V):bW P ops Q R rest a W:=h W hC
theorem D3{s:ag}{a9:al}(h:s.threads[t.toNat]?=some (fs++[f])):qI (bO s t a9) t Y={s with threads:=(s.threads.set t.toNat (fs++[a9])).set t.toNat (fs++[a9]++[Y])}:=by
 rw[lA h];unfold qI;have aw:=(List.getElem?_eq_some_iff.1 h).1;rw[lx (x:=fs++[a9]) (by simp[aw])]
theorem tE{P:Program}{e t:TypeId}{ops:Array Oper}{rest:List Oper}{Q:Exit->Act->World->Prop}(bp:ca P t e z size bytes)(i:o.guard=none)(s x:Operand)
  (bl:o.op=.call {callee:=.builtin .append,args:=#[s,x],argTypes:=#[t,t]})
  {A:LP} {n c g:Nat} {xs:List Value} {F:List Nat} (h0:Own S e size A n c xs F) {cs:Array Value}
  (hs:a.eval s=.slice A n c) (hx:a.eval x=.slice (some ⟨g,0,none⟩) 1 1) (aK:g=S.heap.size) (T:cs.size=size) (ae:∀u∈cs.toList,u.oneCell'=true)
  (y:(n+1)*bytes<=140737488355328) (C:n+1<=140737488355328)
  (h:∀I aA ac,Own ac e size I (n+1) aA (xs++cs.toList) (bA I (n+1) aA)->Fr (λb=>b∈F) S ac->(∀b∈bA I (n+1) aA,b∈F\/(S.heap.size<=b/\b<ac.heap.size))->wpList P ops Q rest (a.put o.dst (.slice I (n+1) aA)) ac):wpList P ops Q (o::rest) a (S.alloc (.cells cs e)):=by
 subst aK;exact vk bp i s x bl h0 hs hx T ae y C h
section
variable {B:Nat} {w ac:World} {s:ag} {r:Nat} {q:SV} {xs:List Value} {F1 F2 L N:List Nat}
theorem ki.Eh{α:Type}{E:World->α->List Value->List Nat->Prop}{w:World}:∀{l:List α} {xs:List Value} {F:List Nat},ki E w l xs F->∀{k:Nat} {a:α},l[k]?=some a->
  ∃Z x bu F1 f F2,xs=Z++(x++bu)/\F=F1++(f++F2)/\ki E w (l.take k) Z F1/\E w a x f/\ki E w (l.drop (k+1)) bu F2
 | [],_,_,_,k,a,ai=>by simp at ai
 | b::l,xs,F,h,0,a,ai=>by
  obtain⟨x,y,F1,F2,rfl,rfl,ae,aD⟩:=h;simp only[List.getElem?_cons_zero,LG] at ai;subst ai
  exact⟨[],x,y,[],F1,F2,rfl,rfl,⟨rfl,rfl⟩,ae,aD⟩
 | b::l,xs,F,h,k+1,a,ai=>by
  obtain⟨bs,y,g,Y,rfl,rfl,ae,aD⟩:=h;simp only[List.getElem?_cons_succ] at ai;obtain⟨Z,x,bu,F1,f,F2,rfl,rfl,aU,a1,cd⟩:=ki.Eh aD ai;exact⟨bs++Z,x,bu,g++F1,f,F2,by simp,by simp,⟨bs,Z,g,F1,rfl,rfl,ae,aU⟩,a1,cd⟩
theorem qn{α β:Type}(g:α->β):∀(l:List α) (k:Nat) (x:α),(l.set k x).map g=(l.map g).set k (g x)
 | [],_,_=>rfl
 | _::_,0,_=>rfl
 | a::l,k+1,x=>by simp[qn g l k x]
theorem fx.start(h:fx B w s r q xs F1 F2 L N){P:Nat->Prop}(bj:(hz Y).rep w P [c0,c1,c2,c3])(aY:∀b,P b->B<=b/\b<w.heap.size/\b≠r/\b∉F1++(F2++(L++N)))
  {aP aV X:World} (R:w.alloc (.cells #[c0,c1,c2,c3] 99)=aP) {I:LP} {aA:Nat}
  (aQ:Own aV 49 1 I (q.hn+1) aA (xs++[.slice (some ⟨w.heap.size,0,none⟩) 1 1]) (bA I (q.hn+1) aA)) (J:Fr (λb=>b∈L) aP aV) (T:∀b∈bA I (q.hn+1) aA,b∈L\/(aP.heap.size<=b/\b<aV.heap.size))
  (hX:aV.setCell ⟨r,2,none⟩ (.slice I (q.hn+1) aA)=X) :
  let aq:SV:=⟨q.GA,q.gn,q.gc,q.TA,q.tn,q.tc,I,q.hn+1,aA⟩
  let a7:ag:={s with threads:=s.threads++[[Y]]}
  aq.Is X (λb=>B<=b/\b<X.heap.size/\b≠r) a7/\an X r 30 (aq.val a7)/\Fr (λb=>B<=b) w X:=by
 intro aq a7;have dh:aP.heap.size=w.heap.size+1:=by rw[<-R];simp
 have aF:=bb R;have o:=aT R;have bv:=J.size;have bI:X.heap.size=aV.heap.size:=by rw[<-hX];simp[World.setCell]
 have nd:=h.st.nd;have n1:=wC.1 nd;have d3:∀b∈F1++(F2++N),b∉L:=λb O aU=>(List.nodup_append.1 n1).2.2 b aU b O rfl;have cQ:∀b,b∈L->b∈F1++(F2++(L++N)):=λb O=>by simp[O]
 have bp:∀b,b∈F1++(F2++N)->b∈F1++(F2++(L++N)):=λb O=>by
  exact zC
 have y:∀b,b<aP.heap.size->b≠r->b∉L->X.heap[b]?=aP.heap[b]?:=λb aw a6 aU=>by
  rw[<-hX];exact(aN a6).trans (J.block b aw aU)
 have i:∀b∈F1++(F2++N),X.heap[b]?=w.heap[b]?:=λb O=>by
  have hl:=(h.lo b (bp b O)).2;exact(y b ab (λhe=>h.ne (he▸bp b O)) (d3 b O)).trans (aF.block b hl λh=>h)
 have a:∀b,b∈F1++(F2++N)->B<=b/\b<X.heap.size/\b≠r:=λb O=>⟨(h.lo b (bp b O)).1,by have:=(h.lo b (bp b O)).2;omega,λhe=>h.ne (he▸bp b O)⟩
 have c4:=h.o.lt;have K:∀b,P b->X.heap[b]?=w.heap[b]?:=λb O=>by
  obtain⟨_,aD,aU,a1⟩:=aY b O;exact(y b ab aU (λcd=>a1 (cQ b cd))).trans (aF.block b aD λh=>h)
 have m:B<=w.heap.size:=by have:=h.go;omega
 have v:an X w.heap.size 99 #[c0,c1,c2,c3]:=(y _ ab ab (λcd=>by have:=(h.lo _ (cQ _ cd)).2;omega)).trans o;have cn:(hz Y).rep X (λb=>B<=b/\b<X.heap.size/\b≠r) [c0,c1,c2,c3]:=D.aE (λb O=>by obtain⟨ae,aD,aU,_⟩:=aY b O;exact⟨ae,ab,aU⟩) _ _ (D.aP K _ _ bj);have bZ:Sl X (λb=>B<=b/\b<X.heap.size/\b≠r) (some ⟨w.heap.size,0,none⟩) 1 ([Y].map hz):=⟨rfl,λ_=>⟨w.heap.size,0,[c0,c1,c2,c3],rfl,⟨m,ab,ab⟩,by simp only[Lh,Ly];exact D.bo.2 cn,λj u hu=>by
  rw[Lt,v.cell];simpa using hu⟩⟩
 have d:∀b∈bA I (q.hn+1) aA,b≠r:=λb O=>by
  rcases T b O with ae|ae
  .exact λhe=>h.ne (he▸cQ b ae)
  .omega
 have e:Own X 49 1 I (q.hn+1) aA (xs++[.slice (some ⟨w.heap.size,0,none⟩) 1 1]) (bA I (q.hn+1) aA):=aQ.ai λb O=>by rw[<-hX];exact aN (d b O)
 refine⟨⟨⟨?_,?_,?_⟩,h.st.g.cap,h.st.t.cap,aQ.cap⟩,?_,?_⟩
 .exact(h.st.g.ai λb O=>i b (by simp only[Lk];exact .inl O)).sl (cF _) (by rw[Lf];exact h.st.gl.symm) λb O=>a b (by simp only[Lk];exact .inl O)
 .exact(h.st.t.ai λb O=>i b (by simp only[Lk];exact .inr (.inl O))).sl (dK _) (by rw[Lf];exact h.st.tl.symm) λb O=>a b (by simp only[Lk];exact .inr (.inl O))
 .have hold:D.aJ X (λb=>B<=b/\b<X.heap.size/\b≠r) (s.threads.map mS) xs:=(h.st.hs.ai oE.ai λb O=>i b (by simp only[Lk];exact .inr (.inr O))).aJ oE.rep λb O=>a b (by simp only[Lk];exact .inr (.inr O));refine e.sl (l:=(s.threads++[[Y]]).map mS) (by rw[Li];exact D.cH hold (D.bo.2 (fm.2 ⟨_,1,1,rfl,Lb _,bZ⟩))) (by simp[h.st.hl]) λb O=>?_;refine⟨?_,(e.lt b O),d b O⟩;rcases T b O with ae|ae
  .exact(h.lo b (cQ b ae)).1
  .omega
 .have:=(h.o.aj aF).on J λaU=>h.ne (cQ _ aU);rw[<-hX];exact this.aD 2 _
 .rw[<-hX];exact Fr.setCell (Fr.trans (Fr.mono aF λ_ h=>h.elim) (Fr.mono J λb O=>(h.lo b (cQ b O)).1)) (.inl h.go) _
theorem fx.push(h:fx B w s r q xs F1 F2 L N){k:Nat}(br:s.threads[k]?=some (fs++[f])):
  ∃O b5 fc a2,q.HA=some ⟨O,0,none⟩/\k<q.hn/\O∈F1++(F2++(L++N))/\b5∈F1++(F2++(L++N))/\O<w.heap.size/\b5<w.heap.size/\B<=O/\B<=b5/\O≠b5/\O≠r/\b5≠r/\(∀j,w.frozen? ⟨O,j,none⟩=false)/\w.cell? ⟨O,k,none⟩=some (.slice (some ⟨b5,0,none⟩) (fs.length+1) fc)/\
   Own w 99 4 (some ⟨b5,0,none⟩) (fs.length+1) fc a2 [b5]/\
   ∀(Y:al) (cs:List Value) (P:Nat->Prop) (I:LP) (aA:Nat) (aV X:World),(hz Y).rep w P cs->(∀b,P b->B<=b/\b<w.heap.size/\b≠r/\b∉F1++(F2++(L++N)))->
    Own aV 99 4 I (fs.length+2) aA (a2++cs) (bA I (fs.length+2) aA)->Fr (λb=>b=b5) w aV->(∀b∈bA I (fs.length+2) aA,b=b5\/(w.heap.size<=b/\b<aV.heap.size))->
    aV.setCell ⟨O,k,none⟩ (.slice I (fs.length+2) aA)=X->
    q.Is X (λb=>B<=b/\b<X.heap.size/\b≠r) {s with threads:=s.threads.set k (fs++[f]++[Y])}/\an X r 30 (q.val s)/\Fr (λb=>B<=b) w X:=by
 obtain⟨Z,x,bu,av,Q,g,bX,z,G,aS,bi⟩:=h.st.hs.Eh br;obtain⟨FA,n,c,a2,ax,af,rfl,rfl,bT,bl,J⟩:=aS;have dl:Z.length=k:=by have:=G.len oE.len;rw[List.length_take,Nat.mul_one] at this;have:=(List.getElem?_eq_some_iff.1 br).1;omega
 have a8:k<s.threads.length:=(List.getElem?_eq_some_iff.1 br).1;have aW:k<q.hn:=by rw[h.st.hl];exact a8
 obtain rfl:n=fs.length+1:=by simpa using bT
 obtain⟨b5,rfl,rfl,cn,o,bN,a5⟩:=bl.block ab;obtain⟨O,sY,cl,bS,t,A,E⟩:=h.st.h.block ab;subst z cl;have nd:=h.st.nd;have nf:∀b∈(F1++(F2++([O]++av)))++(af++g),b≠b5:=eA (by simpa[Lp] using nd);have C:∀b∈(F1++F2)++(av++(b5::(af++g))),b≠O:=eA (by simpa[Lp] using nd);have l:O∈F1++(F2++([O]++(av++(([b5]++af)++g)))):=by simp
 have bd:b5∈F1++(F2++([O]++(av++(([b5]++af)++g)))):=by simp
 have aI:=t k (.slice (some ⟨b5,0,none⟩) (fs.length+1) c) (by rw[bX,List.getElem?_append_right ab,dl,Nat.sub_self];rfl);refine⟨O,b5,c,a2,sY,aW,l,bd,bS,cn,(h.lo _ l).1,(h.lo _ bd).1,nf O (by simp),λhe=>h.ne (he▸l),λhe=>h.ne (he▸bd),A,aI,bl,?_⟩;intro Y cs P I aA aV X bj aY aQ H T hX;have bv:=H.size;have bI:X.heap.size=aV.heap.size:=by rw[<-hX];simp[World.setCell]
 have y:∀b,b<w.heap.size->b≠O->b≠b5->X.heap[b]?=w.heap[b]?:=λb aw a6 aU=>by
  rw[<-hX];exact(aN a6).trans (H.block b aw aU)
 have mem:∀b,b∈F1++(F2++(av++(af++g)))->b∈F1++(F2++([O]++(av++(([b5]++af)++g)))):=λb O=>by
  simp only[Lk] at O ⊢;rcases O with O|O|O|O|O
  .exact .inl O
  .exact .inr (.inl O)
  .exact .inr (.inr (.inr (.inl O)))
  .exact .inr (.inr (.inr (.inr (.inl (.inr O)))))
  .exact .inr (.inr (.inr (.inr (.inr O))))
 have i:∀b∈F1++(F2++(av++(af++g))),X.heap[b]?=w.heap[b]?:=λb O=>by
  refine y b (h.lo b (mem b O)).2 (C b ?_) (nf b ?_)
  .simp only[Lk,Lr] at O ⊢;rcases O with O|O|O|O|O<;>simp[O]
  .simp only[Lk] at O ⊢;rcases O with O|O|O|O|O<;>simp[O]
 have a:∀b,b∈F1++(F2++(av++(af++g)))->B<=b/\b<X.heap.size/\b≠r:=λb O=>⟨(h.lo b (mem b O)).1,by have:=(h.lo b (mem b O)).2;omega,λhe=>h.ne (he▸mem b O)⟩
 have K:∀b,P b->X.heap[b]?=w.heap[b]?:=λb aX=>by
  obtain⟨_,aD,aU,a1⟩:=aY b aX;exact y b aD (λhe=>a1 (he▸l)) (λhe=>a1 (he▸bd))
 have c4:=h.o.lt;have d:∀b∈bA I (fs.length+2) aA,b≠r/\b≠O:=λb aX=>by
  rcases T b aX with ae|ae
  .rw[ae];exact⟨λhe=>h.ne (he▸bd),λhe=>nf O (by simp) he.symm⟩
  .exact⟨ab,ab⟩
 have e:Own X 99 4 I (fs.length+2) aA (a2++cs) (bA I (fs.length+2) aA):=aQ.ai λb aX=>by rw[<-hX];exact aN (d b aX).2
 have u:(hz Y).rep X (λb=>B<=b/\b<X.heap.size/\b≠r) cs:=D.aE (λb O=>by obtain⟨ae,aD,aU,_⟩:=aY b O;exact⟨ae,ab,aU⟩) _ _ (D.aP K _ _ bj);have v:D.aJ X (λb=>B<=b/\b<X.heap.size/\b≠r) ((fs++[f]).map hz) a2:=(J.ai pv.ai λb O=>i b (by simp[O])).aJ pv.rep λb O=>a b (by simp[O]);have F:Sl X (λb=>B<=b/\b<X.heap.size/\b≠r) I (fs.length+2) ((fs++[f]++[Y]).map hz):=e.sl (by rw[Li];exact D.cH v (D.bo.2 u)) (by simp) λb aX=>⟨by
  rcases T b aX with ae|ae
  .rw[ae];exact(h.lo _ bd).1
  .have:=h.go;omega,e.lt b aX,(d b aX).1⟩
 refine⟨⟨⟨?_,?_,?_⟩,h.st.g.cap,h.st.t.cap,h.st.h.cap⟩,?_,?_⟩
 .exact(h.st.g.ai λb O=>i b (by simp only[Lk];exact .inl O)).sl (cF _) (by simp[h.st.gl]) λb O=>a b (by simp only[Lk];exact .inl O)
 .exact(h.st.t.ai λb O=>i b (by simp only[Lk];exact .inr (.inl O))).sl (dK _) (by simp[h.st.tl]) λb O=>a b (by simp only[Lk];exact .inr (.inl O))
 ·
  have wi:Own X 49 1 q.HA q.hn q.hc (xs.set k (.slice I (fs.length+2) aA)) [O]:=by
   have ae:Own aV 49 1 q.HA q.hn q.hc xs [O]:=h.st.h.ai λb aX=>H.block b (aC (LF.1 aX)) (by have:=LF.1 aX;rw[this];exact nf O (by simp));obtain⟨a9,he,bU,_,_,_,am⟩:=ae.block ab;have:a9=O:=by rw[sY] at he;injection he with he;injection he with he _;exact he.symm
   subst this;rw[<-hX];exact am k _ ab
  have m:D.aJ X (λb=>B<=b/\b<X.heap.size/\b≠r) ((s.threads.set k (fs++[f]++[Y])).map mS) (xs.set k (.slice I (fs.length+2) aA)):=by
   have e1:xs.set k (.slice I (fs.length+2) aA)=Z++([.slice I (fs.length+2) aA]++bu):=by
    rw[bX,List.set_append_right _ _ ab,dl,Nat.sub_self];rfl
   have e2:s.threads.set k (fs++[f]++[Y])=s.threads.take k++((fs++[f]++[Y])::s.threads.drop (k+1)):=List.set_eq_take_append_cons_drop.trans (by rw[if_pos a8]);rw[e1,e2,Li,Lh];refine D.cH ((G.ai oE.ai λb O=>i b (by simp[O])).aJ oE.rep λb O=>a b (by simp[O])) ?_;simp only[D.aJ];exact⟨_,_,rfl,fm.2 ⟨_,_,_,rfl,e.cap,F⟩,(bi.ai oE.ai λb O=>i b (by simp[O])).aJ oE.rep λb O=>a b (by simp[O])⟩
  exact wi.sl m (by simp[h.st.hl]) λb aX=>by rw[LF.1 aX];exact⟨(h.lo _ l).1,ab,λhe=>h.ne (he▸l)⟩
 .have:=h.o.on H λhe=>h.ne (he▸bd);rw[<-hX];exact this.J1 (λhe=>h.ne (he▸l)) _
 .rw[<-hX];exact Fr.setCell (Fr.mono H λb aX=>by rw[aX];exact(h.lo _ bd).1) (.inl (h.lo _ l).1) _
end
structure J9(u:av)(s:ag)(t:Int)(f:al)(x:ay)(a b:List Int×Int):Prop where
 Jj:a.2≠0->cu u s t f x=({s with fault:=a.2},true)
 Jk:a.2=0->b.2≠0->cu u s t f x=({s with fault:=b.2},true)
 many:a.2=0->b.2=0->x.op=3->32<=s.threads.length->cu u s t f x=({s with fault:=4},true)
 go:a.2=0->b.2=0->x.op=3->¬32<=s.threads.length->cu u s t f x=({bO s t (next f) with threads:=(bO s t (next f)).threads++[[ef u x.target a.1 b.1]]},true)
 call:a.2=0->b.2=0->x.op=2->cu u s t f x=(qI (bO s t (next f)) t (ef u x.target a.1 b.1),true)
theorem Kn{s:ag}(aG:x.op=2\/x.op=3):J9 u s t f x (db s.globals f.ints x.ints) (cf u s f x.places):=by
 have h0:cu u s t f x=(if bY (db s.globals f.ints x.ints).2 (cf u s f x.places).2 (decide (x.op=3/\32<=s.threads.length))≠0 then ({s with fault:=bY (db s.globals f.ints x.ints).2 (cf u s f x.places).2 (decide (x.op=3/\32<=s.threads.length))},true)
  else if x.op=3 then ({bO s t (next f) with threads:=(bO s t (next f)).threads++[[ef u x.target (db s.globals f.ints x.ints).1 (cf u s f x.places).1]]},true)
  else (qI (bO s t (next f)) t (ef u x.target (db s.globals f.ints x.ints).1 (cf u s f x.places).1),true)):=by
  unfold cu;rw[if_neg ab,if_pos aG]
 generalize db s.globals f.ints x.ints=a at *;generalize cf u s f x.places=b at *;refine⟨λh=>?_,λh ae=>?_,λh ae aU I=>?_,λh ae aU I=>?_,λh ae aD=>?_⟩
 .have:bY a.2 b.2 (decide (x.op=3/\32<=s.threads.length))=a.2:=by unfold bY;rw[if_pos h]
  rw[h0,this,if_pos h]
 .have:bY a.2 b.2 (decide (x.op=3/\32<=s.threads.length))=b.2:=by unfold bY;rw[if_neg ab,if_pos ae]
  rw[h0,this,if_pos ae]
 .have:bY a.2 b.2 (decide (x.op=3/\32<=s.threads.length))=4:=by unfold bY;rw[if_neg ab,if_neg ab,if_pos (by simp[aU,I])]
  rw[h0,this,if_pos ab]
 .have:bY a.2 b.2 (decide (x.op=3/\32<=s.threads.length))=0:=by unfold bY;rw[if_neg ab,if_neg ab,if_neg (by simp;omega)]
  rw[h0,this,if_neg ab,if_pos aU]
 .have:bY a.2 b.2 (decide (x.op=3/\32<=s.threads.length))=0:=by unfold bY;rw[if_neg ab,if_neg ab,if_neg (by simp;omega)]
  rw[h0,this,if_neg ab,if_neg ab]
theorem aS.tok{N:Nat}{s:ag}(h:aS u N s)(hN:N<=100000):G9 u.ae s.table:=by
 refine⟨h.table,λx hx=>?_⟩;obtain⟨i,ak⟩:=List.getElem?_of_mem hx;have aH:=h.holds i x ak;have:=aH.owner;have:=aH.depth;have:=h.zi;omega
theorem fx.I7{B:Nat}{w X:World}{s:ag}{r:Nat}{q:SV}{xs:List Value}{F1 F2 L N:List Nat}(h:fx B w s r q xs F1 F2 L N){T:List dn}{c:LP}{ai aV:Nat}(hT:w.ownsRow 0 95 2 (.slice c ai aV) ai (T.flatMap cG))(hl:ai=T.length)
  (hd:∀b∈bA c ai aV,b∉F1++(F2++(L++N))/\b≠r/\B<=b) (hX:w.setCell ⟨r,1,none⟩ (.slice c ai aV)=X):fx B X {s with table:=T} r ⟨q.GA,q.gn,q.gc,c,ai,aV,q.HA,q.hn,q.hc⟩ xs F1 (bA c ai aV) L N:=by
 have ae:=h.st.I7 hT hl λb O=>(hd b O).1;have aw:∀b∈bA c ai aV,b<w.heap.size:=λb O=>(hT.lt b (by simpa using O)).2;have b2:∀b,b∈F1++(bA c ai aV++(L++N))->B<=b/\b<w.heap.size/\b≠r:=λb O=>by
  simp only[Lk] at O;have aH:∀b,b∈F1++(F2++(L++N))->B<=b/\b<w.heap.size/\b≠r:=λb O=>⟨(h.lo b O).1,(h.lo b O).2,λhe=>h.ne (he▸O)⟩
  rcases O with O|O|O|O
  .exact aH b (by simp[O])
  .exact⟨(hd b O).2.2,aw b O,(hd b O).2.1⟩
  .exact aH b (by simp[O])
  .exact aH b (by simp[O])
 subst hX;refine⟨ae.ai λb O=>aN (b2 b O).2.2,?_,λaK=>(b2 r aK).2.2 rfl,λb O=>⟨(b2 b O).1,by simpa[World.setCell] using (b2 b O).2.1⟩,h.go⟩;exact h.o.aD 1 _
structure Kb(u:av)(s:ag)(t:Int)(f:al)(x:ay)(r:Int×Int):Prop where
 bad:r.2≠0->cu u s t f x=({s with fault:=r.2},true)
 lf:r.2=0->x.op=4->free u.ae s.table r.1 t=true->cu u s t f x=({bO s t (next f) with table:=hL u.ae s.table r.1 t},true)
 ln:r.2=0->x.op=4->free u.ae s.table r.1 t=false->cu u s t f x=(s,false)
 uf:r.2=0->x.op=5->heldBy u.ae s.table r.1 t=true->cu u s t f x=({bO s t (next f) with table:=dO u.ae s.table r.1 t},true)
 un:r.2=0->x.op=5->heldBy u.ae s.table r.1 t=false->cu u s t f x=({s with fault:=3},true)
theorem Kp{s:ag}(aG:x.op=4\/x.op=5):Kb u s t f x (bp u s f x.place):=by
 have h0:cu u s t f x=(if (bp u s f x.place).2≠0 then ({s with fault:=(bp u s f x.place).2},true)
  else if x.op=4 then (if free u.ae s.table (bp u s f x.place).1 t then ({bO s t (next f) with table:=hL u.ae s.table (bp u s f x.place).1 t},true) else (s,false))
  else (if heldBy u.ae s.table (bp u s f x.place).1 t then ({bO s t (next f) with table:=dO u.ae s.table (bp u s f x.place).1 t},true) else ({s with fault:=3},true))):=by
  unfold cu;rw[if_neg ab,if_neg ab,if_pos aG]
 generalize bp u s f x.place=r at *;refine⟨λh=>?_,λh ae aD=>?_,λh ae aD=>?_,λh ae aD=>?_,λh ae aD=>?_⟩
 .rw[h0,if_pos h]
 .rw[h0,if_neg ab,if_pos ae,if_pos aD]
 .rw[h0,if_neg ab,if_pos ae,if_neg (by simp[aD])]
 .rw[h0,if_neg ab,if_neg ab,if_pos aD]
 .rw[h0,if_neg ab,if_neg ab,if_neg (by simp[aD])]
theorem fx.drew{B:Nat}{w:World}{s:ag}{r:Nat}{q:SV}{xs:List Value}{F1 F2 L N:List Nat}(h:fx B w s r q xs F1 F2 L N):fx B w.drew s r q xs F1 F2 L N:=h.aj LL.drew
theorem Ft{s:ag}(h:s.threads[t.toNat]?=some (fs++[f])):y5 s t={s with threads:=s.threads.set t.toNat fs}:=by
 unfold y5;rw[lx h,kF]
theorem w3{s:ag}(h:da s t=some f)(hx:cV u s t=some x):b9 u s t=cu u s t f x:=by
 unfold b9;rw[h,hx]
theorem w2{s:ag}(h:da s t=none):b9 u s t=(s,false):=by
 unfold b9;rw[h]
theorem FR{s:ag}(h:x.op=7):cu u s t f x=(bO s t {f with pc:=x.target},true):=by
 unfold cu;rw[if_neg ab,if_neg ab,if_neg ab,if_pos h]
theorem FT{s:ag}(h:x.op=8):cu u s t f x=(y5 s t,true):=by
 unfold cu;rw[if_neg ab,if_neg ab,if_neg ab,if_neg ab]
def Ik(P:Nat->Prop)(w:World)(s:ag)(e:Ending)(ac:World):Prop:=∃q:SV,e=.returned (.agg (q.val s))/\q.Is ac (λk=>P k\/(w.heap.size<=k/\k<ac.heap.size)) s/\Ext w ac
theorem Fj(u:av):eK u=⟨u.globals,List.replicate (own u.ae).length ⟨0,0⟩,[[ef u u.main [] []]],0⟩:=rfl
theorem cK.below{α:Type}{f:α->List Value}{sz:Nat}{w ac:World}{B:Nat}{A:LP}{l:List α}(h:cK (EF f) sz w B A n l)(ai:∀b,b<B->ac.heap[b]?=w.heap[b]?):cK (EF f) sz ac B A n l:=by
 refine⟨h.1,λhn=>?_⟩;obtain⟨b,o,bp,O,hc⟩:=h.2 hn;refine⟨b,o,bp,O,λk x hx=>?_⟩;obtain⟨cs,he,hl,bd⟩:=hc k x hx;exact⟨cs,he,hl,λj v bD=>(World.cell?_of_block (w:=w) (ai b O)).trans (bd j v bD)⟩
end Go.Proofs.YtflecliffjbleaaGreat
