/- Part 17 of the proof. No condition of its own. -/
import Derived.Test.YtkhnkojkplbioaaGreatQ16
namespace Go.Proofs.YtkhnkojkplbioaaGreat
open Go.RowKit Go.Proofs.Tryz
set_option maxRecDepth 1000000
set_option maxHeartbeats 25600000
set_option linter.unusedVariables false
variable{a:Act}{Q:Exit->Act->World->Prop}{cs:List Value}{fs:List ak}{b m:Nat}{o:Oper}{S:World}{f:ak}
structure lS(w:World)(P:Nat->Prop)(s:ai)(GA:L3)(gn:Nat)(TA:L3)(tn:Nat)(HA:L3)(hn:Nat):Prop where
 g:Sl w P GA gn (s.globals.map .i)
 t:Sl w P TA tn (s.table.map lD)
 h:Sl w P HA hn (s.threads.map jW)
section
variable {w ab:World} {P c9:Nat->Prop} {s:ai} {GA TA HA:L3} {gn gc tn tc hn hc:Nat}
theorem lS.on(h:lS w (av w) s GA gn TA tn HA hn)(he:Ext w ab):lS ab (av ab) s GA gn TA tn HA hn:=⟨h.g.on (Fr.ext he),h.t.on (Fr.ext he),h.h.on (Fr.ext he)⟩
theorem lS.mono(h:lS w P s GA gn TA tn HA hn)(hp:∀b,P b->c9 b):lS w c9 s GA gn TA tn HA hn:=⟨h.g.mono hp,h.t.mono hp,h.h.mono hp⟩
theorem gh:(ew f).rep w P cs↔∃IA i ic S l lc,cs=[.int .i64 f.proc,.int .i64 f.pc,.slice IA i ic,.slice S l lc]/\i<=ic/\l<=lc/\Sl w P IA i (f.ints.map D.i)/\Sl w P S l (f.au.map D.i):=by
 unfold ew;rw[bM];constructor
 .intro h;obtain⟨y,rfl,ac⟩:=bq.1 h;obtain⟨cG,rfl,au⟩:=bq.1 ac;obtain⟨A,n,c,ch,rfl,hc,hs,aY⟩:=aN.1 au;obtain⟨A2,n2,c2,bA,rfl,ca,bN,bR⟩:=aN.1 aY;rw[aP] at bR;subst bR;exact⟨A,n,c,A2,n2,c2,rfl,hc,ca,hs,bN⟩
 .rintro⟨A,n,c,A2,n2,c2,rfl,hc,ca,hs,bN⟩;exact bq.2 ⟨_,rfl,bq.2 ⟨_,rfl,aN.2 ⟨A,n,c,_,rfl,hc,hs,aN.2 ⟨A2,n2,c2,_,rfl,ca,bN,aP.2 rfl⟩⟩⟩⟩
theorem FP(f:ak):(ew f).sz=4:=rfl
theorem FQ(t:List ak):(jW t).sz=1:=rfl
theorem eV{t:List ak}:(jW t).rep w P cs↔∃A n c,cs=[.slice A n c]/\n<=c/\Sl w P A n (t.map ew):=by
 unfold jW;rw[bM];constructor
 .intro h;obtain⟨A,n,c,y,rfl,hc,hs,ac⟩:=aN.1 h;rw[aP] at ac;subst ac;exact⟨A,n,c,rfl,hc,hs⟩
 .rintro⟨A,n,c,rfl,hc,hs⟩;exact aN.2 ⟨A,n,c,_,rfl,hc,hs,aP.2 rfl⟩
theorem Sl.kp{A:L3}{n:Nat}{l:List (List ak)}(h:Sl w P A n (l.map jW)){k:Nat}(ap:k<n):
  ∃b o t FA m c,A=some ⟨b,o,none⟩/\P b/\l[k]?=some t/\w.cell? ⟨b,o+k,none⟩=some (.slice FA m c)/\m<=c/\Sl w P FA m (t.map ew):=by
 obtain⟨b,o,t,cs,aX,O,hx,ba,_,hc⟩:=Sl.g6 (z:=1) h FQ ap;obtain⟨FA,m,c,rfl,ac,au⟩:=eV.1 ba;have aY:=hc 0 _ rfl;simp only[Nat.mul_one,Lu] at aY;exact⟨b,o,t,FA,m,c,aX,O,hx,aY,ac,au⟩
theorem Sl.qi{A:L3}{n:Nat}{l:List ak}(h:Sl w P A n (l.map ew)){k:Nat}(ap:k<n):
  ∃b o f IA i ic S m lc,A=some ⟨b,o,none⟩/\P b/\l[k]?=some f/\w.cell? ⟨b,o+k*4,none⟩=some (.int .i64 f.proc)/\w.cell? ⟨b,o+k*4+1,none⟩=some (.int .i64 f.pc)/\w.cell? ⟨b,o+k*4+2,none⟩=some (.slice IA i ic)/\
   w.cell? ⟨b,o+k*4+3,none⟩=some (.slice S m lc)/\i<=ic/\m<=lc/\Sl w P IA i (f.ints.map D.i)/\Sl w P S m (f.au.map D.i):=by
 obtain⟨b,o,f,cs,aX,O,hx,ba,_,hc⟩:=Sl.g6 (z:=4) h FP ap;obtain⟨IA,i,ic,S,m,lc,rfl,ac,au,aY,bR⟩:=gh.1 ba;have cI:=hc 0 _ rfl;simp only[Lu] at cI;exact⟨b,o,f,IA,i,ic,S,m,lc,aX,O,hx,cI,hc 1 _ rfl,hc 2 _ rfl,hc 3 _ rfl,ac,au,aY,bR⟩
end
abbrev bt(A:L3)(n c:Nat):List Nat:=(Value.slice A n c).ownBlock.toList
structure Own(w:World)(e:TypeId)(z:Nat)(A:L3)(n c:Nat)(xs:List Value)(F:List Nat):Prop where
 row:w.ownsRow 0 e z (.slice A n c) n xs
 eq:F=bt A n c
section
variable {w ab:World} {e:TypeId} {z n c:Nat} {A:L3} {xs:List Value} {F:List Nat}
theorem Own.al(h:Own w e z A n c xs F)(ap:∀b∈F,ab.heap[b]?=w.heap[b]?):Own ab e z A n c xs F:=by
 refine⟨⟨h.row.1,?_⟩,h.eq⟩;rcases h.row.2 with au|⟨g,cap,cur,bG,O,a9,rest⟩
 .exact .inl au
 .exact .inr ⟨g,cap,cur,bG,O,(ap g (by rw[h.eq];unfold bt;rw[bG];simp[Value.ownBlock])).trans a9,rest⟩
theorem Own.cap(h:Own w e z A n c xs F):n<=c:=by
 obtain⟨I,aK,bG,ac,_⟩:=b5 h.row;injection bG with _ _ bG;omega
theorem Own.lt(h:Own w e z A n c xs F):∀b∈F,b<w.heap.size:=λb O=>by
 rw[h.eq] at O;exact(h.row.lt b (by simpa using O)).2
theorem Own.block(h:Own w e z A n c xs F)(hn:0<n):∃g,A=some ⟨g,0,none⟩/\F=[g]/\g<w.heap.size/\(∀j u,xs[j]?=some u->w.cell? ⟨g,j,none⟩=some u)/\(∀j,w.frozen? ⟨g,j,none⟩=false)/\
  ∀j u,j<n*z->Own (w.setCell ⟨g,j,none⟩ u) e z A n c (xs.set j u) F:=by
 obtain⟨g,aX,_,al,hc,J,hs⟩:=im h.row hn;subst aX;exact⟨g,rfl,h.eq,al,hc,J,λj u bi=>⟨hs j u bi,h.eq⟩⟩
theorem Own.sl{l:List D}{P:Nat->Prop}(h:Own w e z A n c xs F)(ba:D.aQ w P l xs)(hl:l.length=n)(hF:∀b∈F,P b):Sl w P A n l:=
 Sl.qB h.row ba hl λg a9 _ _=>hF g (by rw[h.eq,a9];simp[Value.ownBlock])
theorem Own.shorter(h:Own w e z A n c xs F)(hm:m<=n)(hn:0<n):Own w e z A m c (xs.take (m*z)) F:=by
 refine⟨⟨by rw[List.length_take,h.row.1];exact Nat.min_eq_left (Nat.mul_le_mul_right _ hm),?_⟩,by rw[h.eq];cases A<;>rfl⟩;rcases h.row.2 with⟨_,au⟩|⟨g,cap,cur,bG,O,a9,ac,au,aY,bR⟩
 .omega
 .injection bG with aX _ hc;subst aX hc;exact .inr ⟨g,c,cur,rfl,O,a9,ad,au,aY,by rw[<-bR,List.take_take,Nat.min_eq_left (Nat.mul_le_mul_right _ hm)]⟩
end
def ki{α:Type}(E:World->α->List Value->List Nat->Prop)(w:World):List α->List Value->List Nat->Prop
 | [],xs,F=>xs=[]/\F=[]
 | a::l,xs,F=>∃x y F1 F2,xs=x++y/\F=F1++F2/\E w a x F1/\ki E w l y F2
section
variable {α:Type} {E:World->α->List Value->List Nat->Prop} {z:Nat}
def xD(E:World->α->List Value->List Nat->Prop):Prop:=∀(w ab:World) (a:α) (x:List Value) (F:List Nat),E w a x F->(∀b∈F,ab.heap[b]?=w.heap[b]?)->E ab a x F
def zz(z:Nat)(E:World->α->List Value->List Nat->Prop):Prop:=∀(w:World) (a:α) (x:List Value) (F:List Nat),E w a x F->x.length=z
theorem ki.al(aw:xD E){w ab:World}:∀{l:List α} {xs:List Value} {F:List Nat},ki E w l xs F->(∀b∈F,ab.heap[b]?=w.heap[b]?)->ki E ab l xs F
 | [],_,_,h,_=>h
 | a::l,xs,F,h,ap=>by
  obtain⟨x,y,F1,F2,rfl,rfl,ac,au⟩:=h;exact⟨x,y,F1,F2,rfl,rfl,aw _ _ _ _ _ ac λb O=>ap b (by simp[O]),ki.al aw au λb O=>ap b (by simp[O])⟩
theorem ki.snoc{w:World}{a:α}{x:List Value}{f:List Nat}:∀{l:List α} {xs:List Value} {F:List Nat},ki E w l xs F->E w a x f->ki E w (l++[a]) (xs++x) (F++f)
 | [],_,_,⟨ac,au⟩,he=>by
  subst ac au
  exact⟨x,[],f,[],by simp,by simp,he,rfl,rfl⟩
 | b::l,xs,F,h,he=>by
  obtain⟨Z,y,F1,F2,rfl,rfl,ac,au⟩:=h;exact⟨Z,y++x,F1,F2++f,by simp,by simp,ac,ki.snoc au he⟩
theorem ki.len(bv:zz z E){w:World}:∀{l:List α} {xs:List Value} {F:List Nat},ki E w l xs F->xs.length=l.length*z
 | [],_,_,⟨ac,_⟩=>by simp[ac]
 | a::l,xs,F,h=>by
  obtain⟨x,y,F1,F2,rfl,rfl,ac,au⟩:=h;rw[Lm,bv _ _ _ _ ac,ki.len bv au,Lx,Nat.succ_mul];omega
theorem ki.take{w:World}(bv:zz z E):∀{l:List α} {xs:List Value} {F:List Nat},ki E w l xs F->∀k,∃F1,ki E w (l.take k) (xs.take (k*z)) F1/\F1 <+: F
 | [],xs,F,⟨ac,au⟩,k=>⟨[],by subst ac;simp[ki],by simp⟩
 | a::l,xs,F,h,0=>⟨[],by simp[ki],by simp⟩
 | a::l,xs,F,h,k+1=>by
  obtain⟨x,y,F1,F2,rfl,rfl,ac,au⟩:=h;obtain⟨bT,aY,bR⟩:=ki.take bv au k;refine⟨F1++bT,⟨x,y.take (k*z),F1,bT,?_,rfl,ac,aY⟩,by simpa using bR⟩;have:=bv _ _ _ _ ac;rw[List.take_append,Ls (by rw[this,Nat.succ_mul];omega),this,show (k+1)*z - z=k*z by rw[Nat.succ_mul];omega]
theorem ki.at_(aw:xD E)(bv:zz z E){w:World}:∀{l:List α} {xs:List Value} {F:List Nat},ki E w l xs F->∀{k:Nat} {a:α},l[k]?=some a->
  ∃x F1 f F2,F=F1++(f++F2)/\E w a x f/\(∀j u,x[j]?=some u->xs[k*z+j]?=some u)/\
   (∀ab r d,(∀b∈F1++F2,ab.heap[b]?=w.heap[b]?)->E ab r x d->ki E ab (l.set k r) xs (F1++(d++F2)))/\
   (∀ab r j u d,(∀b∈F1++F2,ab.heap[b]?=w.heap[b]?)->j<z->E ab r (x.set j u) d->ki E ab (l.set k r) (xs.set (k*z+j) u) (F1++(d++F2)))
 | [],_,_,_,k,a,ap=>by simp at ap
 | b::l,xs,F,h,0,a,ap=>by
  obtain⟨x,y,F1,F2,rfl,rfl,ac,au⟩:=h;simp only[List.getElem?_cons_zero,LP] at ap;subst ap;have hx:=bv _ _ _ _ ac;refine⟨x,[],F1,F2,by simp,ac,λj u bi=>?_,λab r d ap he=>⟨x,y,d,F2,rfl,by simp,he,ki.al aw au λb O=>ap b (by simp[O])⟩,λab r j u d ap bi he=>⟨x.set j u,y,d,F2,?_,by simp,he,ki.al aw au λb O=>ap b (by simp[O])⟩⟩
  .rw[Nat.zero_mul,LF,List.getElem?_append_left (List.getElem?_eq_some_iff.1 bi).1];exact bi
  .rw[Nat.zero_mul,LF,List.set_append_left _ _ ad]
 | b::l,xs,F,h,k+1,a,ap=>by
  obtain⟨bx,y,g,R,rfl,rfl,ac,au⟩:=h;simp only[List.getElem?_cons_succ] at ap;have hx:=bv _ _ _ _ ac;obtain⟨x,F1,f,F2,rfl,aY,bR,cI,a2⟩:=ki.at_ aw bv au ap;have i:∀j,(k+1)*z+j=bx.length+(k*z+j):=λj=>by rw[hx,Nat.succ_mul];omega
  refine⟨x,g++F1,f,F2,by simp,aY,λj u bi=>?_,λab r d ap he=>⟨bx,y,g,F1++(d++F2),rfl,by simp,aw _ _ _ _ _ ac λb O=>ap b (by simp[O]),cI ab r d (λb O=>ap b (by simp at O ⊢;rcases O with O|O<;>simp[O])) he⟩,
   λab r j u d ap bi he=>⟨bx,y.set (k*z+j) u,g,F1++(d++F2),?_,by simp,aw _ _ _ _ _ ac λb O=>ap b (by simp[O]),a2 ab r j u d (λb O=>ap b (by simp at O ⊢;rcases O with O|O<;>simp[O])) bi he⟩⟩
  .rw[i,List.getElem?_append_right ad,Nat.add_sub_cancel_left];exact bR j u bi
  .rw[i,List.set_append_right _ _ ad,Nat.add_sub_cancel_left]
theorem ki.aQ{w:World}{P:Nat->Prop}{enc:α->D}(ba:∀a x F,E w a x F->(∀b∈F,P b)->(enc a).rep w P x):∀{l:List α} {xs:List Value} {F:List Nat},ki E w l xs F->(∀b∈F,P b)->D.aQ w P (l.map enc) xs
 | [],_,_,⟨ac,_⟩,_=>by simp only[LK,D.aQ];exact ac
 | a::l,xs,F,h,ap=>by
  obtain⟨x,y,F1,F2,rfl,rfl,ac,au⟩:=h;simp only[Lq,D.aQ];exact⟨x,y,rfl,ba _ _ _ ac λb O=>ap b (by simp[O]),ki.aQ ba au λb O=>ap b (by simp[O])⟩
end
abbrev df:Int->Value:=Value.int .i64
def pE(w:World)(f:ak)(cs:List Value)(F:List Nat):Prop:=∃IA i ic S l lc F1 F2,cs=[.int .i64 f.proc,.int .i64 f.pc,.slice IA i ic,.slice S l lc]/\F=F1++F2/\
 i=f.ints.length/\l=f.au.length/\Own w 3 1 IA i ic (f.ints.map df) F1/\Own w 3 1 S l lc (f.au.map df) F2
def oK(w:World)(fs:List ak)(cs:List Value)(F:List Nat):Prop:=∃FA n c xs F1 F2,cs=[.slice FA n c]/\F=F1++F2/\n=fs.length/\Own w 72 4 FA n c xs F1/\ki pE w fs xs F2
structure ri(w:World)(s:ai)(GA:L3)(gn gc:Nat)(TA:L3)(tn tc:Nat)(HA:L3)(hn hc:Nat)(xs:List Value)(F1 F2 bT b2:List Nat):Prop where
 gl:gn=s.globals.length
 tl:tn=s.table.length
 hl:hn=s.threads.length
 g:Own w 3 1 GA gn gc (s.globals.map df) F1
 t:Own w 123 2 TA tn tc (s.table.flatMap bK) F2
 h:Own w 68 1 HA hn hc xs bT
 hs:ki oK w s.threads xs b2
 nd:(F1++(F2++(bT++b2))).Nodup
theorem pE.al:xD pE:=λw ab a x F h ap=>by
 obtain⟨IA,i,ic,S,l,lc,F1,F2,rfl,rfl,an,hl,ac,au⟩:=h;exact⟨IA,i,ic,S,l,lc,F1,F2,rfl,rfl,an,hl,ac.al λb O=>ap b (by simp[O]),au.al λb O=>ap b (by simp[O])⟩
theorem pE.len:zz 4 pE:=λw a x F h=>by
 obtain⟨IA,i,ic,S,l,lc,F1,F2,rfl,_⟩:=h;rfl
theorem oK.al:xD oK:=λw ab a x F h ap=>by
 obtain⟨FA,n,c,xs,F1,F2,rfl,rfl,hn,ac,au⟩:=h;exact⟨FA,n,c,xs,F1,F2,rfl,rfl,hn,ac.al λb O=>ap b (by simp[O]),au.al pE.al λb O=>ap b (by simp[O])⟩
theorem oK.len:zz 1 oK:=λw a x F h=>by
 obtain⟨FA,n,c,xs,F1,F2,rfl,_⟩:=h;rfl
theorem cx{w:World}{P:Nat->Prop}:∀(l:List Int),D.aQ w P (l.map D.i) (l.map df)
 | []=>by simp only[LK,D.aQ]
 | a::l=>by simp only[Lq];exact bq.2 ⟨_,rfl,cx l⟩
theorem dA{w:World}{P:Nat->Prop}:∀(l:List bV),D.aQ w P (l.map lD) (l.flatMap bK)
 | []=>by simp only[LK,D.aQ,List.flatMap_nil]
 | a::l=>by
  simp only[Lq,LH,D.aQ];exact⟨_,_,rfl,by unfold lD;exact bq.2 ⟨_,rfl,bq.2 ⟨_,rfl,aP.2 rfl⟩⟩,dA l⟩
theorem pE.rep{w:World}{P:Nat->Prop}(f:ak)(x:List Value)(F:List Nat)(h:pE w f x F)(a1:∀b∈F,P b):(ew f).rep w P x:=by
 obtain⟨IA,i,ic,S,l,lc,F1,F2,rfl,rfl,an,hl,ac,au⟩:=h;exact gh.2 ⟨IA,i,ic,S,l,lc,rfl,ac.cap,au.cap,ac.sl (cx _) (by simp[an]) λb O=>a1 b (by simp[O]),au.sl (cx _) (by simp[hl]) λb O=>a1 b (by simp[O])⟩
theorem oK.rep{w:World}{P:Nat->Prop}(t:List ak)(x:List Value)(F:List Nat)(h:oK w t x F)(a1:∀b∈F,P b):(jW t).rep w P x:=by
 obtain⟨FA,n,c,xs,F1,F2,rfl,rfl,hn,ac,au⟩:=h;exact eV.2 ⟨FA,n,c,rfl,ac.cap,ac.sl (au.aQ pE.rep λb O=>a1 b (by simp[O])) (by simp[hn]) λb O=>a1 b (by simp[O])⟩
section
variable {w ab:World} {P c9:Nat->Prop} {s:ai} {GA TA HA:L3} {gn gc tn tc hn hc:Nat} {xs:List Value} {F1 F2 bT b2:List Nat}
theorem ri.at_(h:ri w s GA gn gc TA tn tc HA hn hc xs F1 F2 bT b2)(a1:∀b∈F1++(F2++(bT++b2)),P b):lS w P s GA gn TA tn HA hn:=
 ⟨h.g.sl (cx _) (by simp[h.gl]) λb O=>a1 b (by simp[O]),h.t.sl (dA _) (by simp[h.tl]) λb O=>a1 b (by simp[O]),h.h.sl (h.hs.aQ oK.rep λb O=>a1 b (by simp[O])) (by simp[h.hl]) λb O=>a1 b (by simp[O])⟩
theorem ri.al(h:ri w s GA gn gc TA tn tc HA hn hc xs F1 F2 bT b2)(ap:∀b∈F1++(F2++(bT++b2)),ab.heap[b]?=w.heap[b]?):ri ab s GA gn gc TA tn tc HA hn hc xs F1 F2 bT b2:=
 ⟨h.gl,h.tl,h.hl,h.g.al λb O=>ap b (by simp[O]),h.t.al λb O=>ap b (by simp[O]),h.h.al λb O=>ap b (by simp[O]),h.hs.al oK.al λb O=>ap b (by simp[O]),h.nd⟩
end
theorem eJ{A B:List Nat}{x:Nat}(h:(A++x::B).Nodup):∀b∈A++B,b≠x:=by
 intro b O he;subst he;have:=(List.perm_middle (a:=b) (l₁:=A) (l₂:=B)).nodup_iff.1 h;exact(List.nodup_cons.1 this).1 O
theorem lh{α:Type}{g:α->α}{x:α}:∀{l:List α} {k:Nat},l[k]?=some x->l.modify k g=l.set k (g x)
 | [],k,h=>by simp at h
 | a::l,0,h=>by simp at h;subst h;rfl
 | a::l,k+1,h=>by
  simp only[List.getElem?_cons_succ] at h;rw[List.modify_succ_cons,List.set_cons_succ,lh h]
theorem kC{α:Type}(l:List α)(x:α):(l++[x]).dropLast=l:=by simp
theorem aR{w:World}{p:Addr}{u:Value}(h:b≠p.block):(w.setCell p u).heap[b]?=w.heap[b]?:=Below.heap_setCell w p u b h
section
variable {w ab:World} {P c9:Nat->Prop} {s:ai} {GA TA HA:L3} {gn gc tn tc hn hc:Nat} {xs:List Value} {F1 F2 bT b2:List Nat}
theorem ri.top(h:ri w s GA gn gc TA tn tc HA hn hc xs F1 F2 bT b2){k:Nat}(bA:s.threads[k]?=some (fs++[f])):
  ∃O cj fc IA i ic S l lc,HA=some ⟨O,0,none⟩/\k<hn/\O<w.heap.size/\cj<w.heap.size/\O∈bT/\cj∈b2/\i=f.ints.length/\l=f.au.length/\
   w.cell? ⟨O,k,none⟩=some (.slice (some ⟨cj,0,none⟩) (fs.length+1) fc)/\fs.length+1<=fc/\
   w.cell? ⟨cj,fs.length*4,none⟩=some (.int .i64 f.proc)/\w.cell? ⟨cj,fs.length*4+1,none⟩=some (.int .i64 f.pc)/\w.cell? ⟨cj,fs.length*4+2,none⟩=some (.slice IA i ic)/\w.cell? ⟨cj,fs.length*4+3,none⟩=some (.slice S l lc)/\
   (∀j,w.frozen? ⟨O,j,none⟩=false)/\(∀j,w.frozen? ⟨cj,j,none⟩=false)/\
   (∀v,ri (w.setCell ⟨cj,fs.length*4+1,none⟩ (.int .i64 v)) {s with threads:=s.threads.set k (fs++[{f with pc:=v}])} GA gn gc TA tn tc HA hn hc xs F1 F2 bT b2)/\
   (∀j v,j<i->∃I,IA=some ⟨I,0,none⟩/\I<w.heap.size/\I∈b2/\w.frozen? ⟨I,j,none⟩=false/\(∃u,w.cell? ⟨I,j,none⟩=some u)/\ri (w.setCell ⟨I,j,none⟩ (.int .i64 v)) {s with threads:=s.threads.set k (fs++[{f with ints:=f.ints.set j v}])} GA gn gc TA tn tc HA hn hc xs F1 F2 bT b2)/\
   (∃e d,ri (w.setCell ⟨O,k,none⟩ (.slice (some ⟨cj,0,none⟩) fs.length fc)) {s with threads:=s.threads.set k fs} GA gn gc TA tn tc HA hn hc e F1 F2 bT d/\∀b∈d,b∈b2):=by
 obtain⟨x,U,G,g,aa,aL,hx,c1,c2⟩:=h.hs.at_ oK.al oK.len bA;obtain⟨FA,n,c,b3,e6,bE,rfl,rfl,ct,bn,J⟩:=aL;have aV:k<s.threads.length:=(List.getElem?_eq_some_iff.1 bA).1;have bH:k<hn:=by rw[h.hl];exact aV
 have ca:n=fs.length+1:=by simpa using ct
 obtain⟨cj,rfl,rfl,cg,aB,bI,bG⟩:=bn.block ad;obtain⟨O,mO,a2,cl,o,t,A⟩:=h.h.block ad;obtain⟨y,ba,C,dO,rfl,B,bb,d1,d2⟩:=J.at_ (k:=fs.length) (a:=f) pE.al pE.len (by simp);obtain⟨IA,i,ic,S,l,lc,q,M2,rfl,rfl,an,hl,r,bB⟩:=B;subst aa a2 mO;have nd:=h.nd;have nf:∀b∈(F1++(F2++([O]++U)))++(ba++((q++M2)++(dO++g))),b≠cj:=eJ (by simpa[Ly] using nd);have z:∀b∈(F1++F2)++(U++(cj::(ba++(q++(M2++(dO++g)))))),b≠O:=eJ (by simpa[Ly] using nd);refine⟨O,cj,c,IA,i,ic,S,l,lc,rfl,bH,cl,cg,by simp,by simp,an,hl,?_,?_,?_,?_,?_,?_,t,bI,λv=>?_,λj v bi=>?_,?_⟩
 .rw[<-ca];have:=hx 0 _ rfl;rw[Nat.mul_one,Lu] at this;exact o _ _ this
 .rw[<-ca];exact bn.cap
 .exact aB _ _ (by have:=bb 0 _ rfl;rwa [Lu] at this)
 .exact aB _ _ (bb 1 _ rfl)
 .exact aB _ _ (bb 2 _ rfl)
 .exact aB _ _ (bb 3 _ rfl)
 .have ap:∀b,b≠cj->(w.setCell ⟨cj,fs.length*4+1,none⟩ (.int .i64 v)).heap[b]?=w.heap[b]?:=λb O=>aR O;have e1:pE (w.setCell ⟨cj,fs.length*4+1,none⟩ (.int .i64 v)) {f with pc:=v} ([.int .i64 f.proc,.int .i64 f.pc,.slice IA i ic,.slice S l lc].set 1 (.int .i64 v)) (q++M2):=
   ⟨IA,i,ic,S,l,lc,q,M2,rfl,rfl,an,hl,r.al λb O=>ap b (nf b (by simp[O])),bB.al λb O=>ap b (nf b (by simp[O]))⟩
  have e2:=d2 _ _ 1 (.int .i64 v) _ (λb O=>ap b (nf b (by simp at O ⊢;rcases O with O|O<;>simp[O]))) ad e1;rw[List.set_append_right _ _ (Lk _),Nat.sub_self,List.set_cons_zero] at e2;have e3:oK (w.setCell ⟨cj,fs.length*4+1,none⟩ (.int .i64 v)) (fs++[{f with pc:=v}]) _ _:=⟨some ⟨cj,0,none⟩,n,c,_,[cj],_,rfl,rfl,by simpa using ca,bG _ (.int .i64 v) (by rw[ca];omega),e2⟩
  have a6:=c1 _ _ _ (λb O=>ap b (nf b (by simp at O ⊢;rcases O with O|O<;>simp[O]))) e3;exact⟨h.gl,h.tl,by simpa using h.hl,h.g.al λb O=>ap b (nf b (by simp[O])),h.t.al λb O=>ap b (nf b (by simp[O])),h.h.al λb O=>ap b (nf b (by simp at O;simp[O])),a6,nd⟩
 .obtain⟨I,rfl,rfl,cF,b0,T,ax⟩:=r.block ad;have dK:∀b∈(F1++(F2++([O]++(U++(cj::ba)))))++(M2++(dO++g)),b≠I:=eJ (by simpa[Ly] using nd);have ap:∀b,b≠I->(w.setCell ⟨I,j,none⟩ (.int .i64 v)).heap[b]?=w.heap[b]?:=λb O=>aR O;have e0:=ax j (.int .i64 v) ad;rw[show (f.ints.map df).set j (.int .i64 v)=(f.ints.set j v).map df from (List.map_set (f:=df)).symm] at e0;have e1:pE (w.setCell ⟨I,j,none⟩ (.int .i64 v)) {f with ints:=f.ints.set j v} [.int .i64 f.proc,.int .i64 f.pc,.slice (some ⟨I,0,none⟩) i ic,.slice S l lc] ([I]++M2):=
   ⟨some ⟨I,0,none⟩,i,ic,S,l,lc,[I],M2,rfl,rfl,by simpa using an,hl,e0,bB.al λb O=>ap b (dK b (by simp[O]))⟩
  have e2:=d1 _ _ _ (λb O=>ap b (dK b (by simp at O ⊢;rcases O with O|O<;>simp[O]))) e1;rw[List.set_append_right _ _ (Lk _),Nat.sub_self,List.set_cons_zero] at e2;have e3:oK (w.setCell ⟨I,j,none⟩ (.int .i64 v)) (fs++[{f with ints:=f.ints.set j v}]) _ _:=⟨some ⟨cj,0,none⟩,n,c,_,[cj],_,rfl,rfl,by simpa using ca,bn.al λb O=>ap b (dK b (by simp at O;simp[O])),e2⟩
  have a6:=c1 _ _ _ (λb O=>ap b (dK b (by simp at O ⊢;rcases O with O|O<;>simp[O]))) e3;refine⟨I,rfl,cF,by simp,T _,⟨.int .i64 (f.ints[j]'ad),b0 _ _ (by rw[List.getElem?_map,List.getElem?_eq_getElem ad];rfl)⟩,h.gl,h.tl,by simpa using h.hl,h.g.al λb O=>ap b (dK b (by simp[O])),h.t.al λb O=>ap b (dK b (by simp[O])),h.h.al λb O=>ap b (dK b (by simp at O;simp[O])),a6,nd⟩
 .have ap:∀b,b≠O->(w.setCell ⟨O,k,none⟩ (.slice (some ⟨cj,0,none⟩) fs.length c)).heap[b]?=w.heap[b]?:=λb h=>aR h;obtain⟨R,hp,E⟩:=J.take pE.len fs.length;rw[List.take_left] at hp;have H:∀b∈R,b∈ba++(q++(M2++dO)):=λb O=>by have:=E.subset O;simpa[Ly] using this
  have e3:oK (w.setCell ⟨O,k,none⟩ (.slice (some ⟨cj,0,none⟩) fs.length c)) fs ([.slice (some ⟨cj,0,none⟩) n c].set 0 (.slice (some ⟨cj,0,none⟩) fs.length c)) ([cj]++R):=
   ⟨some ⟨cj,0,none⟩,fs.length,c,_,[cj],R,rfl,rfl,rfl,(bn.shorter (m:=fs.length) ad ad).al λb O=>ap b (z b (by simp at O;simp[O])),hp.al pE.al λb O=>ap b (z b (by have:=H b O;simp at this ⊢;rcases this with h|h|h|h<;>simp[h]))⟩
  have a6:=c2 _ _ 0 (.slice (some ⟨cj,0,none⟩) fs.length c) _ (λb O=>ap b (z b (by simp at O ⊢;rcases O with O|O<;>simp[O]))) ad e3;rw[Nat.mul_one,Lu] at a6;refine⟨_,_,⟨h.gl,h.tl,by simpa using h.hl,h.g.al λb O=>ap b (z b (by simp[O])),h.t.al λb O=>ap b (z b (by simp[O])),A k _ ad,a6,?_⟩,λb O=>?_⟩
  .refine List.Sublist.nodup (l₂:=F1++(F2++([O]++(U++(([cj]++(ba++((q++M2)++dO)))++g))))) ?_ nd;exact(List.Sublist.refl _).append ((List.Sublist.refl _).append ((List.Sublist.refl _).append ((List.Sublist.refl _).append (((List.Sublist.refl _).append E.sublist).append (List.Sublist.refl _)))))
  .simp only[Lt] at O ⊢;rcases O with O|(O|O)|O
   .exact .inl O
   .exact .inr (.inl (.inl O))
   .exact .inr (.inl (.inr (by have:=E.subset O;simpa only[Lt] using this)))
   .exact .inr (.inr O)
theorem ri.c7(h:ri w s GA gn gc TA tn tc HA hn hc xs F1 F2 bT b2){j:Nat}(bi:j<gn):∃bL,GA=some ⟨bL,0,none⟩/\bL<w.heap.size/\w.frozen? ⟨bL,j,none⟩=false/\(∃u,w.cell? ⟨bL,j,none⟩=some u)/\bL∈F1/\
  ∀v,ri (w.setCell ⟨bL,j,none⟩ (.int .i64 v)) {s with globals:=s.globals.set j v} GA gn gc TA tn tc HA hn hc xs F1 F2 bT b2:=by
 obtain⟨bL,y,U,ci,ar,a,bz⟩:=h.g.block ad;subst y U;have nd:=h.nd;have ng:∀b∈[]++(F2++(bT++b2)),b≠bL:=eJ (by simpa using nd);have r3:=h.gl;refine⟨bL,rfl,ci,a _,⟨.int .i64 (s.globals[j]'ad),ar _ _ (by rw[List.getElem?_map,List.getElem?_eq_getElem ad];rfl)⟩,by simp,λv=>?_⟩;have ap:∀b,b≠bL->(w.setCell ⟨bL,j,none⟩ (.int .i64 v)).heap[b]?=w.heap[b]?:=λb O=>aR O;have e0:=bz j (.int .i64 v) ad;rw[show (s.globals.map df).set j (.int .i64 v)=(s.globals.set j v).map df from (List.map_set (f:=df)).symm] at e0;exact⟨by simpa using h.gl,h.tl,h.hl,e0,h.t.al λb O=>ap b (ng b (by simp[O])),h.h.al λb O=>ap b (ng b (by simp[O])),h.hs.al oK.al λb O=>ap b (ng b (by simp[O])),nd⟩
theorem ri.Hv(h:ri w s GA gn gc TA tn tc HA hn hc xs F1 F2 bT b2){T:List bV}{a1:L3}{L:Nat}(hT:w.ownsRow 0 123 2 (.slice a1 m L) m (T.flatMap bK))(hl:m=T.length)(hd:∀b∈bt a1 m L,b∉F1++(F2++(bT++b2))):
  ri w {s with table:=T} GA gn gc a1 m L HA hn hc xs F1 (bt a1 m L) bT b2:=by
 refine⟨h.gl,hl,h.hl,h.g,⟨hT,rfl⟩,h.h,h.hs,?_⟩;have nd:=h.nd;have n1:=List.nodup_append.1 nd;have n2:=List.nodup_append.1 n1.2.1;refine List.nodup_append.2 ⟨n1.1,List.nodup_append.2 ⟨?_,n2.2.1,λa bz b O ay=>?_⟩,λa bz b O ay=>?_⟩
 .unfold bt;cases (Value.slice a1 m L).ownBlock<;>simp
 .subst ay;exact hd a bz (by simp at O ⊢;rcases O with O|O<;>simp[O])
 .subst ay;rcases Lt.1 O with O|O
  .exact hd a O (by simp[bz])
  .exact n1.2.2 a bz a (by simp at O ⊢;rcases O with O|O<;>simp[O]) rfl
end
theorem uA(l:List Int):l.flatMap cP=l.map df:=uB l
theorem l3(A:L3)(n c:Nat)(l:List Int)(w:World)(h:cp (EF cP) 1 w w.heap.size A n l)(hn:n<=100000) :
  Calls prog 47 #[.slice A n c] w λr ab=>∃I aK,r=.returned (.slice I n aK)/\ab.ownsRow w.heap.size 3 1 (.slice I n aK) n (l.map df)/\Below w.heap.size w ab:=by
 have heq:=λW=>sj (P:=prog) W 22 3 A n c 0 0 Tryz.underlying22;rcases A with _|a
 .have aM:n=0:=by
   rcases Nat.eq_zero_or_pos n with h0|h0
   .exact h0
   .obtain⟨b,o,h,_⟩:=h.2 h0;cases h
  subst aM;have hT:l=[]:=List.eq_nil_of_length_eq_zero h.1;subst hT;go_enter func47,ntmps47;exact Ag
 .have ay:=Src.lM h (jH l) (mY l) ad;rw[uA] at ay;go_enter func47,ntmps47;go_wp2_with(at_builtin;refine fX _ dh (by rfl) (.tmp 5) (.tmp 6) (by rfl) (by rfl) _ _ _ _ (by rfl) ay ad ad (λh=>nomatch h) ?_;intro bZ c1 aS bb b1);go_ret;exact⟨bZ,c1,rfl,bb,b1⟩
theorem Sl.l3{A:L3}{n c:Nat}{l:List Int}{w:World}(h:Sl w (av w) A n (l.map D.i))(hn:n<=100000) :
  Calls prog 47 #[.slice A n c] w λr ab=>∃I aK,r=.returned (.slice I n aK)/\Own ab 3 1 I n aK (l.map df) (bt I n aK)/\(∀b∈bt I n aK,w.heap.size<=b/\b<ab.heap.size)/\Ext w ab:=
 (Go.Proofs.YtkhnkojkplbioaaGreat.l3 A n c l w h.ints hn).mono λr ab ⟨I,aK,ba,bn,O⟩=>⟨I,aK,ba,⟨hh bn (LJ _),rfl⟩,λb O=>bn.lt b (by simpa using O),Fr.of O⟩
theorem Sl.wm{A:L3}{n c:Nat}{l:List bV}{w:World}(h:Sl w (av w) A n (l.map lD))(hn:n<=5000):
  Calls prog 97 #[.slice A n c] w λr ab=>∃I aK,r=.returned (.slice I n aK)/\Own ab 123 2 I n aK (l.flatMap bK) (bt I n aK)/\(∀b∈bt I n aK,w.heap.size<=b/\b<ab.heap.size)/\Ext w ab:=
 (nB A n c l w h.holds hn).mono λr ab ⟨I,aK,ba,bn,O⟩=>⟨I,aK,ba,⟨hh bn (LJ _),rfl⟩,λb O=>bn.lt b (by simpa using O),Fr.of O⟩
section
variable {P:Program} {e t:TypeId} {z:Value} {size bytes:Nat}
theorem eZ(A:L3)(n c:Nat):(bt A n c).Nodup:=by unfold bt;cases (Value.slice A n c).ownBlock<;>simp
namespace CK
theorem Bx{p:Prop}(h:p:=by
 refine h I aK ab ⟨bS,rfl⟩ (LW.grown a9 λg a9=>.inl (by rw[h0.eq];simp[a9])) λb O=>?_;have aT:(Value.slice I (n+1) aK).ownBlock=some b:=by simpa using O
 rcases H with H|H
 .rw[H] at aT;exact .inl (by rw[h0.eq];simp[aT])
 .have:=(bS.lt b aT).2;rw[H] at aT;injection aT with aT;right;simp at aT;omega
 ):p:=h
end CK
open CK in
theorem yz{K:Act->World->Prop}(aX:cj P t e z size bytes)(s x:Operand)
  (bn:o.op=.call {callee:=.builtin .append,args:=#[s,x],argTypes:=#[t,t]})
  {A:L3} {n c:Nat} {xs:List Value} {F:List Nat} (h0:Own S e size A n c xs F) {cs:Array Value}
  (hs:a.eval s=.slice A n c) (hx:a.eval x=.slice (some ⟨S.heap.size,0,none⟩) 1 1) (T:cs.size=size) (ac:∀u∈cs.toList,u.oneCell'=true)
  (r:(n+1)*bytes<=140737488355328) (y:n+1<=140737488355328)
  (h:∀I aK ab,Own ab e size I (n+1) aK (xs++cs.toList) (bt I (n+1) aK)->Fr (λb=>b∈F) S ab->(∀b∈bt I (n+1) aK,b∈F\/(S.heap.size<=b/\b<ab.heap.size))->K (a.put o.dst (.slice I (n+1) aK)) ab):o.wp P a (S.alloc (.cells cs e)) K Q:=by
 refine kf _ aX s x bn 0 _ n xs hs (h0.row.alloc _) _ 1 1 cs.toList hx (Src.block (heap_alloc_new S _) 1 ad ac) r y (LJ _) (λh=>nomatch h) λG ab bS cW H=>?_;exact Bw
theorem oG{ops:Array Oper}{rest:List Oper}(aX:cj P t e z size bytes)(i:o.guard=none)(s x:Operand)
  (bn:o.op=.call {callee:=.builtin .append,args:=#[s,x],argTypes:=#[t,t]})
  {A:L3} {n c:Nat} {xs:List Value} {F:List Nat} (h0:Own S e size A n c xs F) {cs:Array Value}
  (hs:a.eval s=.slice A n c) (hx:a.eval x=.slice (some ⟨S.heap.size,0,none⟩) 1 1) (T:cs.size=size) (ac:∀u∈cs.toList,u.oneCell'=true)
  (r:(n+1)*bytes<=140737488355328) (y:n+1<=140737488355328)
  (h:∀I aK ab,Own ab e size I (n+1) aK (xs++cs.toList) (bt I (n+1) aK)->Fr (λb=>b∈F) S ab->(∀b∈bt I (n+1) aK,b∈F\/(S.heap.size<=b/\b<ab.heap.size))->wpList P ops Q rest (a.put o.dst (.slice I (n+1) aK)) ab):wpList P ops Q (o::rest) a (S.alloc (.cells cs e)):=
 wpList_plain i λ_ hK=>yz aX s x bn h0 hs hx T ac r y λI aK ab cb g2 cT=>hK _ _ (h I aK ab cb g2 cT)
end
theorem yg{e6 bE f I:List Nat}{a:Nat}(h:(e6++bE).Nodup)(al:∀x∈e6++bE,x<a)(hI:I.Nodup)(d:∀x∈I,a<=x/\x<b)(hK:f.Nodup)(g:∀x∈f,x∈e6\/b<=x)(ay:a<=b):(f++(bE++I)).Nodup:=by
 have h0:=List.nodup_append.1 h;refine List.nodup_append.2 ⟨hK,List.nodup_append.2 ⟨h0.2.1,hI,λx hx y bb c=>?_⟩,λx hx y bb c=>?_⟩
 .have:=al x (by simp[hx]);have:=d y bb;omega
 .subst c;rcases Lt.1 bb with bb|bb
  .rcases g x hx with ac|ac
   .exact h0.2.2 x ac x bb rfl
   .have:=al x (by simp[bb]);omega
  .have au:=d x bb;rcases g x hx with ac|ac
   .have:=al x (by simp[ac]);omega
   .omega
theorem H9{X Y:List Nat}(hX:X.Nodup)(cu:Y.Nodup)(ac:∀x∈X,x<m)(au:∀y∈Y,m<=y):(X++Y).Nodup:=
 List.nodup_append.2 ⟨hX,cu,λx hx y bb c=>by have:=ac x hx;have:=au y bb;omega⟩
theorem wU{F1 F2 bT b2:List Nat}:(F1++(F2++(bT++b2))).Nodup↔(bT++(F1++(F2++b2))).Nodup:=by
 have h:(F1++(F2++(bT++b2))).Perm (bT++(F1++(F2++b2))):=by
  rw[<-List.append_assoc F1 F2,<-List.append_assoc (F1++F2) bT,<-List.append_assoc F1 F2 b2,<-List.append_assoc bT];exact List.perm_append_comm.append_right b2
 exact h.nodup_iff
structure Small(s:ai):Prop where
 g:s.globals.length<=1000
 t:s.table.length<=5000
 h:s.threads.length<=1000
 f:∀t∈s.threads,t.length<=1000000/\∀f∈t,f.ints.length<=100000/\f.au.length<=100000
structure GB(B:Nat)(w:World)(s:ai)(GA:L3)(gn gc:Nat)(TA:L3)(tn tc N k:Nat)(HA:L3)(hc:Nat)(xs:List Value)(bT b2:List Nat):Prop where
 st:ri w {s with threads:=s.threads.take k} GA gn gc TA tn tc HA k hc xs (bt GA gn gc) (bt TA tn tc) bT b2
 o:aq w N 40 #[.slice GA gn gc,.slice TA tn tc,.slice HA k hc,.int .i64 s.fault]
 ne:N∉bt GA gn gc++(bt TA tn tc++(bT++b2))
 lo:∀b∈bt GA gn gc++(bt TA tn tc++(bT++b2)),B<=b/\b<w.heap.size
 go:B<=N
section
variable {B:Nat} {w ab:World} {s:ai} {GA TA HA:L3} {gn gc tn tc N k hc:Nat} {xs:List Value} {bT b2:List Nat}
theorem GB.aj(h:GB B w s GA gn gc TA tn tc N k HA hc xs bT b2)(he:Ext w ab):GB B ab s GA gn gc TA tn tc N k HA hc xs bT b2:=
 ⟨h.st.al λb O=>he.block b (h.lo b O).2 λh=>h,h.o.aj he,h.ne,λb O=>⟨(h.lo b O).1,Ll (h.lo b O).2 he.size⟩,h.go⟩
theorem GB.step(h:GB B w s GA gn gc TA tn tc N k HA hc xs bT b2)(bA:s.threads[k]?=some fs){FA:L3}{n c:Nat}{b3:List Value}{e6 bE:List Nat}{aS aU:World}(he:Ext w aS)
  (bn:Own aS 72 4 FA n c b3 e6) (J:ki pE aS fs b3 bE) (hn:n=fs.length) (nd:(e6++bE).Nodup) (hK:∀b∈e6++bE,w.heap.size<=b/\b<aS.heap.size)
  {bf:L3} {aZ:Nat} (ba:Own aU 68 1 bf (k+1) aZ (xs++[.slice FA n c]) (bt bf (k+1) aZ)) (cd:Fr (λb=>b∈bT) aS aU) (r:∀b∈bt bf (k+1) aZ,b∈bT\/(aS.heap.size<=b/\b<aU.heap.size)) {X:World}
  (hX:aU.setCell ⟨N,2,none⟩ (.slice bf (k+1) aZ)=X):GB B X s GA gn gc TA tn tc N (k+1) bf aZ (xs++[.slice FA n c]) (bt bf (k+1) aZ) (b2++(e6++bE)):=by
 have hw:=he.size;have ck:=cd.size;have cT:N<w.heap.size:=h.o.lt;have m:=h.st.nd;have l:=wU.1 m;have n2:=List.nodup_append.1 l;have j:∀b∈bt GA gn gc++(bt TA tn tc++b2),b∉bT:=λb O aY=>n2.2.2 b aY b O rfl;have al:∀b∈bt GA gn gc++(bt TA tn tc++b2),b<w.heap.size/\b≠N:=λb O=>by
  have aT:b∈bt GA gn gc++(bt TA tn tc++(bT++b2)):=by
   exact zR
  exact⟨(h.lo b aT).2,λhe=>h.ne (he▸aT)⟩
 have a2:∀b∈bT,b<w.heap.size/\b≠N:=λb O=>by
  have aT:b∈bt GA gn gc++(bt TA tn tc++(bT++b2)):=by simp[O]
  exact⟨(h.lo b aT).2,λhe=>h.ne (he▸aT)⟩
 have i:∀b,b≠N->X.heap[b]?=aU.heap[b]?:=λb O=>by rw[<-hX];exact aR O
 have H:X.heap.size=aU.heap.size:=by rw[<-hX];simp[World.setCell]
 have d:∀b∈bt GA gn gc++(bt TA tn tc++b2),X.heap[b]?=w.heap[b]?:=λb O=>
  (i b (al b O).2).trans ((cd.block b (by have:=(al b O).1;omega) (j b O)).trans (he.block b (al b O).1 λh=>h))
 have f:∀b∈e6++bE,X.heap[b]?=aS.heap[b]?:=λb O=>
  (i b (aD (hK b O))).trans (cd.block b (hK b O).2 λaY=>by have:=hK b O;have:=(a2 b aY).1;omega)
 have g:∀b∈bt bf (k+1) aZ,b≠N:=λb O=>by
  rcases r b O with ac|ac
  .exact(a2 b ac).2
  .omega
 have aL:oK X fs [.slice FA n c] (e6++bE):=⟨FA,n,c,b3,e6,bE,rfl,rfl,hn,bn.al λb O=>f b (by simp[O]),J.al pE.al λb O=>f b (by simp[O])⟩
 have e4:s.threads.take (k+1)=s.threads.take k++[fs]:=a1 bA;refine⟨⟨h.st.gl,h.st.tl,?_,h.st.g.al λb O=>d b (by simp only[Lt];exact .inl O),h.st.t.al λb O=>d b (by simp only[Lt];exact .inr (.inl O)),ba.al λb O=>i b (g b O),?_,?_⟩,?_,?_,λb O=>?_,h.go⟩
 .have:=h.st.hl;show k+1=(s.threads.take (k+1)).length
  rw[e4,Lm,<-this];rfl
 .show ki oK X (s.threads.take (k+1)) _ _
  rw[e4];exact(h.st.hs.al oK.al λb O=>d b (by simp[O])).snoc aL
 .refine wU.2 ?_;rw[show bt GA gn gc++(bt TA tn tc++(b2++(e6++bE)))=(bt GA gn gc++(bt TA tn tc++b2))++(e6++bE) by simp];refine yg (a:=w.heap.size) (b:=aS.heap.size) l (λx hx=>?_) nd hK (eZ _ _ _) (λx hx=>(r x hx).imp id λh=>h.1) hw;rcases Lt.1 hx with hx|hx
  .exact(a2 x hx).1
  .exact(al x hx).1
 .have:=(h.o.aj he).on cd λaY=>(a2 _ aY).2 rfl;rw[<-hX];exact this.aM 2 _
 .intro a9;simp only[Lt] at a9;have ac:=h.ne;simp only[Lt] at ac;rcases a9 with a9|a9|a9|a9|a9|a9
  .exact ac (.inl a9)
  .exact ac (.inr (.inl a9))
  .exact g _ a9 rfl
  .exact ac (.inr (.inr (.inr a9)))
  .have:=hK N (by simp[a9]);omega
  .have:=hK N (by simp[a9]);omega
 .rw[H];simp only[Lt] at O;have hl:=h.lo;rcases O with O|O|O|O|O|O
  .have:=hl b (by simp[O]);omega
  .have:=hl b (by simp[O]);omega
  .rcases r b O with ac|ac
   .have:=hl b (by simp[ac]);omega
   .have:=h.go;omega
  .have:=hl b (by simp[O]);omega
  .have:=hK b (by simp[O]);have:=h.go;omega
  .have:=hK b (by simp[O]);have:=h.go;omega
end
end Go.Proofs.YtkhnkojkplbioaaGreat
