/- Part 17 of the proof. No condition of its own. -/
import Derived.Test.YtflecliffjbleaaGreatS16
namespace Go.Proofs.YtflecliffjbleaaGreat
open Go.RowKit Go.Proofs.Tryz
set_option maxRecDepth 1000000
set_option maxHeartbeats 25600000
set_option linter.unusedVariables false
variable{a:Act}{Q:Exit->Act->World->Prop}{cs:List Value}{fs:List an}{b m:Nat}{o:Oper}{S:World}{f:an}
structure l0(w:World)(P:Nat->Prop)(s:ai)(GA:Mk)(gn:Nat)(TA:Mk)(tn:Nat)(HA:Mk)(hn:Nat):Prop where
 g:Sl w P GA gn (s.globals.map .i)
 t:Sl w P TA tn (s.table.map mf)
 h:Sl w P HA hn (s.threads.map mS)
section
variable {w ab:World} {P cW:Nat->Prop} {s:ai} {GA TA HA:Mk} {gn gc tn tc hn hc:Nat}
theorem l0.on(h:l0 w (av w) s GA gn TA tn HA hn)(he:Ext w ab):l0 ab (av ab) s GA gn TA tn HA hn:=⟨h.g.on (Fr.ext he),h.t.on (Fr.ext he),h.h.on (Fr.ext he)⟩
theorem l0.mono(h:l0 w P s GA gn TA tn HA hn)(hp:∀b,P b->cW b):l0 w cW s GA gn TA tn HA hn:=⟨h.g.mono hp,h.t.mono hp,h.h.mono hp⟩
theorem gu:(gJ f).rep w P cs↔∃IA i ic bB l lc,cs=[.int .i64 f.proc,.int .i64 f.pc,.slice IA i ic,.slice bB l lc]/\i<=ic/\l<=lc/\Sl w P IA i (f.ints.map D.i)/\Sl w P bB l (f.ax.map D.i):=by
 unfold gJ;rw[bJ];constructor
 .intro h;obtain⟨y,rfl,ac⟩:=bf.1 h;obtain⟨cn,rfl,ax⟩:=bf.1 ac;obtain⟨A,n,c,cm,rfl,hc,hs,a1⟩:=aL.1 ax;obtain⟨A2,n2,c2,bv,rfl,cf,bP,aU⟩:=aL.1 a1;rw[aQ] at aU;subst aU;exact⟨A,n,c,A2,n2,c2,rfl,hc,cf,hs,bP⟩
 .rintro⟨A,n,c,A2,n2,c2,rfl,hc,cf,hs,bP⟩;exact bf.2 ⟨_,rfl,bf.2 ⟨_,rfl,aL.2 ⟨A,n,c,_,rfl,hc,hs,aL.2 ⟨A2,n2,c2,_,rfl,cf,bP,aQ.2 rfl⟩⟩⟩⟩
theorem FU(f:an):(gJ f).sz=4:=rfl
theorem FV(t:List an):(mS t).sz=1:=rfl
theorem fE{t:List an}:(mS t).rep w P cs↔∃A n c,cs=[.slice A n c]/\n<=c/\Sl w P A n (t.map gJ):=by
 unfold mS;rw[bJ];constructor
 .intro h;obtain⟨A,n,c,y,rfl,hc,hs,ac⟩:=aL.1 h;rw[aQ] at ac;subst ac;exact⟨A,n,c,rfl,hc,hs⟩
 .rintro⟨A,n,c,rfl,hc,hs⟩;exact aL.2 ⟨A,n,c,_,rfl,hc,hs,aQ.2 rfl⟩
theorem Sl.vn{A:Mk}{n:Nat}{l:List (List an)}(h:Sl w P A n (l.map mS)){k:Nat}(aj:k<n):
  ∃b o t FA m c,A=some ⟨b,o,none⟩/\P b/\l[k]?=some t/\w.cell? ⟨b,o+k,none⟩=some (.slice FA m c)/\m<=c/\Sl w P FA m (t.map gJ):=by
 obtain⟨b,o,t,cs,bO,O,hx,a9,_,hc⟩:=Sl.g9 (z:=1) h FV aj;obtain⟨FA,m,c,rfl,ac,ax⟩:=fE.1 a9;have a1:=hc 0 _ rfl;simp only[Nat.mul_one,LM] at a1;exact⟨b,o,t,FA,m,c,bO,O,hx,a1,ac,ax⟩
theorem Sl.Hv{A:Mk}{n:Nat}{l:List an}(h:Sl w P A n (l.map gJ)){k:Nat}(aj:k<n):
  ∃b o f IA i ic bB m lc,A=some ⟨b,o,none⟩/\P b/\l[k]?=some f/\w.cell? ⟨b,o+k*4,none⟩=some (.int .i64 f.proc)/\w.cell? ⟨b,o+k*4+1,none⟩=some (.int .i64 f.pc)/\w.cell? ⟨b,o+k*4+2,none⟩=some (.slice IA i ic)/\
   w.cell? ⟨b,o+k*4+3,none⟩=some (.slice bB m lc)/\i<=ic/\m<=lc/\Sl w P IA i (f.ints.map D.i)/\Sl w P bB m (f.ax.map D.i):=by
 obtain⟨b,o,f,cs,bO,O,hx,a9,_,hc⟩:=Sl.g9 (z:=4) h FU aj;obtain⟨IA,i,ic,bB,m,lc,rfl,ac,ax,a1,aU⟩:=gu.1 a9;have cy:=hc 0 _ rfl;simp only[LM] at cy;exact⟨b,o,f,IA,i,ic,bB,m,lc,bO,O,hx,cy,hc 1 _ rfl,hc 2 _ rfl,hc 3 _ rfl,ac,ax,a1,aU⟩
end
abbrev bx(A:Mk)(n c:Nat):List Nat:=(Value.slice A n c).ownBlock.toList
structure Own(w:World)(e:TypeId)(z:Nat)(A:Mk)(n c:Nat)(xs:List Value)(F:List Nat):Prop where
 row:w.ownsRow 0 e z (.slice A n c) n xs
 eq:F=bx A n c
section
variable {w ab:World} {e:TypeId} {z n c:Nat} {A:Mk} {xs:List Value} {F:List Nat}
theorem Own.ak(h:Own w e z A n c xs F)(aj:∀b∈F,ab.heap[b]?=w.heap[b]?):Own ab e z A n c xs F:=by
 refine⟨⟨h.row.1,?_⟩,h.eq⟩;rcases h.row.2 with ax|⟨g,cap,cur,bG,O,aY,rest⟩
 .exact .inl ax
 .exact .inr ⟨g,cap,cur,bG,O,(aj g (by rw[h.eq];unfold bx;rw[bG];simp[Value.ownBlock])).trans aY,rest⟩
theorem Own.cap(h:Own w e z A n c xs F):n<=c:=by
 obtain⟨I,aD,bG,ac,_⟩:=bH h.row;injection bG with _ _ bG;omega
theorem Own.lt(h:Own w e z A n c xs F):∀b∈F,b<w.heap.size:=λb O=>by
 rw[h.eq] at O;exact(h.row.lt b (by simpa using O)).2
theorem Own.block(h:Own w e z A n c xs F)(hn:0<n):∃g,A=some ⟨g,0,none⟩/\F=[g]/\g<w.heap.size/\(∀j u,xs[j]?=some u->w.cell? ⟨g,j,none⟩=some u)/\(∀j,w.frozen? ⟨g,j,none⟩=false)/\
  ∀j u,j<n*z->Own (w.setCell ⟨g,j,none⟩ u) e z A n c (xs.set j u) F:=by
 obtain⟨g,bO,_,ap,hc,J,hs⟩:=iv h.row hn;subst bO;exact⟨g,rfl,h.eq,ap,hc,J,λj u bi=>⟨hs j u bi,h.eq⟩⟩
theorem Own.sl{l:List D}{P:Nat->Prop}(h:Own w e z A n c xs F)(a9:D.aO w P l xs)(hl:l.length=n)(hF:∀b∈F,P b):Sl w P A n l:=
 Sl.qE h.row a9 hl λg aY _ _=>hF g (by rw[h.eq,aY];simp[Value.ownBlock])
theorem Own.shorter(h:Own w e z A n c xs F)(hm:m<=n)(hn:0<n):Own w e z A m c (xs.take (m*z)) F:=by
 refine⟨⟨by rw[List.length_take,h.row.1];exact Nat.min_eq_left (Nat.mul_le_mul_right _ hm),?_⟩,by rw[h.eq];cases A<;>rfl⟩;rcases h.row.2 with⟨_,ax⟩|⟨g,cap,cur,bG,O,aY,ac,ax,a1,aU⟩
 .omega
 .injection bG with bO _ hc;subst bO hc;exact .inr ⟨g,c,cur,rfl,O,aY,ad,ax,a1,by rw[<-aU,List.take_take,Nat.min_eq_left (Nat.mul_le_mul_right _ hm)]⟩
end
def kp{α:Type}(E:World->α->List Value->List Nat->Prop)(w:World):List α->List Value->List Nat->Prop
 | [],xs,F=>xs=[]/\F=[]
 | a::l,xs,F=>∃x y F1 F2,xs=x++y/\F=F1++F2/\E w a x F1/\kp E w l y F2
section
variable {α:Type} {E:World->α->List Value->List Nat->Prop} {z:Nat}
def xA(E:World->α->List Value->List Nat->Prop):Prop:=∀(w ab:World) (a:α) (x:List Value) (F:List Nat),E w a x F->(∀b∈F,ab.heap[b]?=w.heap[b]?)->E ab a x F
def zK(z:Nat)(E:World->α->List Value->List Nat->Prop):Prop:=∀(w:World) (a:α) (x:List Value) (F:List Nat),E w a x F->x.length=z
theorem kp.ak(aF:xA E){w ab:World}:∀{l:List α} {xs:List Value} {F:List Nat},kp E w l xs F->(∀b∈F,ab.heap[b]?=w.heap[b]?)->kp E ab l xs F
 | [],_,_,h,_=>h
 | a::l,xs,F,h,aj=>by
  obtain⟨x,y,F1,F2,rfl,rfl,ac,ax⟩:=h;exact⟨x,y,F1,F2,rfl,rfl,aF _ _ _ _ _ ac λb O=>aj b (by simp[O]),kp.ak aF ax λb O=>aj b (by simp[O])⟩
theorem kp.snoc{w:World}{a:α}{x:List Value}{f:List Nat}:∀{l:List α} {xs:List Value} {F:List Nat},kp E w l xs F->E w a x f->kp E w (l++[a]) (xs++x) (F++f)
 | [],_,_,⟨ac,ax⟩,he=>by
  subst ac ax
  exact⟨x,[],f,[],by simp,by simp,he,rfl,rfl⟩
 | b::l,xs,F,h,he=>by
  obtain⟨Z,y,F1,F2,rfl,rfl,ac,ax⟩:=h;exact⟨Z,y++x,F1,F2++f,by simp,by simp,ac,kp.snoc ax he⟩
theorem kp.len(aG:zK z E){w:World}:∀{l:List α} {xs:List Value} {F:List Nat},kp E w l xs F->xs.length=l.length*z
 | [],_,_,⟨ac,_⟩=>by simp[ac]
 | a::l,xs,F,h=>by
  obtain⟨x,y,F1,F2,rfl,rfl,ac,ax⟩:=h;rw[LD,aG _ _ _ _ ac,kp.len aG ax,LP,Nat.succ_mul];omega
theorem kp.take{w:World}(aG:zK z E):∀{l:List α} {xs:List Value} {F:List Nat},kp E w l xs F->∀k,∃F1,kp E w (l.take k) (xs.take (k*z)) F1/\F1 <+: F
 | [],xs,F,⟨ac,ax⟩,k=>⟨[],by subst ac;simp[kp],by simp⟩
 | a::l,xs,F,h,0=>⟨[],by simp[kp],by simp⟩
 | a::l,xs,F,h,k+1=>by
  obtain⟨x,y,F1,F2,rfl,rfl,ac,ax⟩:=h;obtain⟨bI,a1,aU⟩:=kp.take aG ax k;refine⟨F1++bI,⟨x,y.take (k*z),F1,bI,?_,rfl,ac,a1⟩,by simpa using aU⟩;have:=aG _ _ _ _ ac;rw[List.take_append,LK (by rw[this,Nat.succ_mul];omega),this,show (k+1)*z - z=k*z by rw[Nat.succ_mul];omega]
theorem kp.at_(aF:xA E)(aG:zK z E){w:World}:∀{l:List α} {xs:List Value} {F:List Nat},kp E w l xs F->∀{k:Nat} {a:α},l[k]?=some a->
  ∃x F1 f F2,F=F1++(f++F2)/\E w a x f/\(∀j u,x[j]?=some u->xs[k*z+j]?=some u)/\
   (∀ab r d,(∀b∈F1++F2,ab.heap[b]?=w.heap[b]?)->E ab r x d->kp E ab (l.set k r) xs (F1++(d++F2)))/\
   (∀ab r j u d,(∀b∈F1++F2,ab.heap[b]?=w.heap[b]?)->j<z->E ab r (x.set j u) d->kp E ab (l.set k r) (xs.set (k*z+j) u) (F1++(d++F2)))
 | [],_,_,_,k,a,aj=>by simp at aj
 | b::l,xs,F,h,0,a,aj=>by
  obtain⟨x,y,F1,F2,rfl,rfl,ac,ax⟩:=h;simp only[List.getElem?_cons_zero,Mb] at aj;subst aj;have hx:=aG _ _ _ _ ac;refine⟨x,[],F1,F2,by simp,ac,λj u bi=>?_,λab r d aj he=>⟨x,y,d,F2,rfl,by simp,he,kp.ak aF ax λb O=>aj b (by simp[O])⟩,λab r j u d aj bi he=>⟨x.set j u,y,d,F2,?_,by simp,he,kp.ak aF ax λb O=>aj b (by simp[O])⟩⟩
  .rw[Nat.zero_mul,LW,List.getElem?_append_left (List.getElem?_eq_some_iff.1 bi).1];exact bi
  .rw[Nat.zero_mul,LW,List.set_append_left _ _ ad]
 | b::l,xs,F,h,k+1,a,aj=>by
  obtain⟨bU,y,g,Y,rfl,rfl,ac,ax⟩:=h;simp only[List.getElem?_cons_succ] at aj;have hx:=aG _ _ _ _ ac;obtain⟨x,F1,f,F2,rfl,a1,aU,cy,bQ⟩:=kp.at_ aF aG ax aj;have i:∀j,(k+1)*z+j=bU.length+(k*z+j):=λj=>by rw[hx,Nat.succ_mul];omega
  refine⟨x,g++F1,f,F2,by simp,a1,λj u bi=>?_,λab r d aj he=>⟨bU,y,g,F1++(d++F2),rfl,by simp,aF _ _ _ _ _ ac λb O=>aj b (by simp[O]),cy ab r d (λb O=>aj b (by simp at O ⊢;rcases O with O|O<;>simp[O])) he⟩,
   λab r j u d aj bi he=>⟨bU,y.set (k*z+j) u,g,F1++(d++F2),?_,by simp,aF _ _ _ _ _ ac λb O=>aj b (by simp[O]),bQ ab r j u d (λb O=>aj b (by simp at O ⊢;rcases O with O|O<;>simp[O])) bi he⟩⟩
  .rw[i,List.getElem?_append_right ad,Nat.add_sub_cancel_left];exact aU j u bi
  .rw[i,List.set_append_right _ _ ad,Nat.add_sub_cancel_left]
theorem kp.aO{w:World}{P:Nat->Prop}{enc:α->D}(a9:∀a x F,E w a x F->(∀b∈F,P b)->(enc a).rep w P x):∀{l:List α} {xs:List Value} {F:List Nat},kp E w l xs F->(∀b∈F,P b)->D.aO w P (l.map enc) xs
 | [],_,_,⟨ac,_⟩,_=>by simp only[L4,D.aO];exact ac
 | a::l,xs,F,h,aj=>by
  obtain⟨x,y,F1,F2,rfl,rfl,ac,ax⟩:=h;simp only[LI,D.aO];exact⟨x,y,rfl,a9 _ _ _ ac λb O=>aj b (by simp[O]),kp.aO a9 ax λb O=>aj b (by simp[O])⟩
end
abbrev dq:Int->Value:=Value.int .i64
def pH(w:World)(f:an)(cs:List Value)(F:List Nat):Prop:=∃IA i ic bB l lc F1 F2,cs=[.int .i64 f.proc,.int .i64 f.pc,.slice IA i ic,.slice bB l lc]/\F=F1++F2/\
 i=f.ints.length/\l=f.ax.length/\Own w 3 1 IA i ic (f.ints.map dq) F1/\Own w 3 1 bB l lc (f.ax.map dq) F2
def oP(w:World)(fs:List an)(cs:List Value)(F:List Nat):Prop:=∃FA n c xs F1 F2,cs=[.slice FA n c]/\F=F1++F2/\n=fs.length/\Own w 99 4 FA n c xs F1/\kp pH w fs xs F2
structure rh(w:World)(s:ai)(GA:Mk)(gn gc:Nat)(TA:Mk)(tn tc:Nat)(HA:Mk)(hn hc:Nat)(xs:List Value)(F1 F2 bI b9:List Nat):Prop where
 gl:gn=s.globals.length
 tl:tn=s.table.length
 hl:hn=s.threads.length
 g:Own w 3 1 GA gn gc (s.globals.map dq) F1
 t:Own w 95 2 TA tn tc (s.table.flatMap cb) F2
 h:Own w 49 1 HA hn hc xs bI
 hs:kp oP w s.threads xs b9
 nd:(F1++(F2++(bI++b9))).Nodup
theorem pH.ak:xA pH:=λw ab a x F h aj=>by
 obtain⟨IA,i,ic,bB,l,lc,F1,F2,rfl,rfl,al,hl,ac,ax⟩:=h;exact⟨IA,i,ic,bB,l,lc,F1,F2,rfl,rfl,al,hl,ac.ak λb O=>aj b (by simp[O]),ax.ak λb O=>aj b (by simp[O])⟩
theorem pH.len:zK 4 pH:=λw a x F h=>by
 obtain⟨IA,i,ic,bB,l,lc,F1,F2,rfl,_⟩:=h;rfl
theorem oP.ak:xA oP:=λw ab a x F h aj=>by
 obtain⟨FA,n,c,xs,F1,F2,rfl,rfl,hn,ac,ax⟩:=h;exact⟨FA,n,c,xs,F1,F2,rfl,rfl,hn,ac.ak λb O=>aj b (by simp[O]),ax.ak pH.ak λb O=>aj b (by simp[O])⟩
theorem oP.len:zK 1 oP:=λw a x F h=>by
 obtain⟨FA,n,c,xs,F1,F2,rfl,_⟩:=h;rfl
theorem cI{w:World}{P:Nat->Prop}:∀(l:List Int),D.aO w P (l.map D.i) (l.map dq)
 | []=>by simp only[L4,D.aO]
 | a::l=>by simp only[LI];exact bf.2 ⟨_,rfl,cI l⟩
theorem dS{w:World}{P:Nat->Prop}:∀(l:List dc),D.aO w P (l.map mf) (l.flatMap cb)
 | []=>by simp only[L4,D.aO,List.flatMap_nil]
 | a::l=>by
  simp only[LI,LY,D.aO];exact⟨_,_,rfl,by unfold mf;exact bf.2 ⟨_,rfl,bf.2 ⟨_,rfl,aQ.2 rfl⟩⟩,dS l⟩
theorem pH.rep{w:World}{P:Nat->Prop}(f:an)(x:List Value)(F:List Nat)(h:pH w f x F)(be:∀b∈F,P b):(gJ f).rep w P x:=by
 obtain⟨IA,i,ic,bB,l,lc,F1,F2,rfl,rfl,al,hl,ac,ax⟩:=h;exact gu.2 ⟨IA,i,ic,bB,l,lc,rfl,ac.cap,ax.cap,ac.sl (cI _) (by simp[al]) λb O=>be b (by simp[O]),ax.sl (cI _) (by simp[hl]) λb O=>be b (by simp[O])⟩
theorem oP.rep{w:World}{P:Nat->Prop}(t:List an)(x:List Value)(F:List Nat)(h:oP w t x F)(be:∀b∈F,P b):(mS t).rep w P x:=by
 obtain⟨FA,n,c,xs,F1,F2,rfl,rfl,hn,ac,ax⟩:=h;exact fE.2 ⟨FA,n,c,rfl,ac.cap,ac.sl (ax.aO pH.rep λb O=>be b (by simp[O])) (by simp[hn]) λb O=>be b (by simp[O])⟩
section
variable {w ab:World} {P cW:Nat->Prop} {s:ai} {GA TA HA:Mk} {gn gc tn tc hn hc:Nat} {xs:List Value} {F1 F2 bI b9:List Nat}
theorem rh.at_(h:rh w s GA gn gc TA tn tc HA hn hc xs F1 F2 bI b9)(be:∀b∈F1++(F2++(bI++b9)),P b):l0 w P s GA gn TA tn HA hn:=
 ⟨h.g.sl (cI _) (by simp[h.gl]) λb O=>be b (by simp[O]),h.t.sl (dS _) (by simp[h.tl]) λb O=>be b (by simp[O]),h.h.sl (h.hs.aO oP.rep λb O=>be b (by simp[O])) (by simp[h.hl]) λb O=>be b (by simp[O])⟩
theorem rh.ak(h:rh w s GA gn gc TA tn tc HA hn hc xs F1 F2 bI b9)(aj:∀b∈F1++(F2++(bI++b9)),ab.heap[b]?=w.heap[b]?):rh ab s GA gn gc TA tn tc HA hn hc xs F1 F2 bI b9:=
 ⟨h.gl,h.tl,h.hl,h.g.ak λb O=>aj b (by simp[O]),h.t.ak λb O=>aj b (by simp[O]),h.h.ak λb O=>aj b (by simp[O]),h.hs.ak oP.ak λb O=>aj b (by simp[O]),h.nd⟩
end
theorem eJ{A B:List Nat}{x:Nat}(h:(A++x::B).Nodup):∀b∈A++B,b≠x:=by
 intro b O he;subst he;have:=(List.perm_middle (a:=b) (l₁:=A) (l₂:=B)).nodup_iff.1 h;exact(List.nodup_cons.1 this).1 O
theorem lC{α:Type}{g:α->α}{x:α}:∀{l:List α} {k:Nat},l[k]?=some x->l.modify k g=l.set k (g x)
 | [],k,h=>by simp at h
 | a::l,0,h=>by simp at h;subst h;rfl
 | a::l,k+1,h=>by
  simp only[List.getElem?_cons_succ] at h;rw[List.modify_succ_cons,List.set_cons_succ,lC h]
theorem kH{α:Type}(l:List α)(x:α):(l++[x]).dropLast=l:=by simp
theorem aR{w:World}{p:Addr}{u:Value}(h:b≠p.block):(w.setCell p u).heap[b]?=w.heap[b]?:=Below.heap_setCell w p u b h
section
variable {w ab:World} {P cW:Nat->Prop} {s:ai} {GA TA HA:Mk} {gn gc tn tc hn hc:Nat} {xs:List Value} {F1 F2 bI b9:List Nat}
theorem rh.top(h:rh w s GA gn gc TA tn tc HA hn hc xs F1 F2 bI b9){k:Nat}(bv:s.threads[k]?=some (fs++[f])):
  ∃O ch fc IA i ic bB l lc,HA=some ⟨O,0,none⟩/\k<hn/\O<w.heap.size/\ch<w.heap.size/\O∈bI/\ch∈b9/\i=f.ints.length/\l=f.ax.length/\
   w.cell? ⟨O,k,none⟩=some (.slice (some ⟨ch,0,none⟩) (fs.length+1) fc)/\fs.length+1<=fc/\
   w.cell? ⟨ch,fs.length*4,none⟩=some (.int .i64 f.proc)/\w.cell? ⟨ch,fs.length*4+1,none⟩=some (.int .i64 f.pc)/\w.cell? ⟨ch,fs.length*4+2,none⟩=some (.slice IA i ic)/\w.cell? ⟨ch,fs.length*4+3,none⟩=some (.slice bB l lc)/\
   (∀j,w.frozen? ⟨O,j,none⟩=false)/\(∀j,w.frozen? ⟨ch,j,none⟩=false)/\
   (∀v,rh (w.setCell ⟨ch,fs.length*4+1,none⟩ (.int .i64 v)) {s with threads:=s.threads.set k (fs++[{f with pc:=v}])} GA gn gc TA tn tc HA hn hc xs F1 F2 bI b9)/\
   (∀j v,j<i->∃T,IA=some ⟨T,0,none⟩/\T<w.heap.size/\T∈b9/\w.frozen? ⟨T,j,none⟩=false/\(∃u,w.cell? ⟨T,j,none⟩=some u)/\rh (w.setCell ⟨T,j,none⟩ (.int .i64 v)) {s with threads:=s.threads.set k (fs++[{f with ints:=f.ints.set j v}])} GA gn gc TA tn tc HA hn hc xs F1 F2 bI b9)/\
   (∃e d,rh (w.setCell ⟨O,k,none⟩ (.slice (some ⟨ch,0,none⟩) fs.length fc)) {s with threads:=s.threads.set k fs} GA gn gc TA tn tc HA hn hc e F1 F2 bI d/\∀b∈d,b∈b9):=by
 obtain⟨x,S,K,g,z,aK,hx,c1,c2⟩:=h.hs.at_ oP.ak oP.len bv;obtain⟨FA,n,c,cG,bE,az,rfl,rfl,bJ,bn,J⟩:=aK;have bN:k<s.threads.length:=(List.getElem?_eq_some_iff.1 bv).1;have a7:k<hn:=by rw[h.hl];exact bN
 have cu:n=fs.length+1:=by simpa using bJ
 obtain⟨ch,rfl,rfl,cr,G,U,bu⟩:=bn.block ad;obtain⟨O,mW,a5,cm,o,t,C⟩:=h.h.block ad;obtain⟨y,a9,D,a6,rfl,B,bb,d1,d2⟩:=J.at_ (k:=fs.length) (a:=f) pH.ak pH.len (by simp);obtain⟨IA,i,ic,bB,l,lc,q,M2,rfl,rfl,al,hl,r,bm⟩:=B;subst z a5 mW;have nd:=h.nd;have nf:∀b∈(F1++(F2++([O]++S)))++(a9++((q++M2)++(a6++g))),b≠ch:=eJ (by simpa[LQ] using nd);have A:∀b∈(F1++F2)++(S++(ch::(a9++(q++(M2++(a6++g)))))),b≠O:=eJ (by simpa[LQ] using nd);refine⟨O,ch,c,IA,i,ic,bB,l,lc,rfl,a7,cm,cr,by simp,by simp,al,hl,?_,?_,?_,?_,?_,?_,t,U,λv=>?_,λj v bi=>?_,?_⟩
 .rw[<-cu];have:=hx 0 _ rfl;rw[Nat.mul_one,LM] at this;exact o _ _ this
 .rw[<-cu];exact bn.cap
 .exact G _ _ (by have:=bb 0 _ rfl;rwa [LM] at this)
 .exact G _ _ (bb 1 _ rfl)
 .exact G _ _ (bb 2 _ rfl)
 .exact G _ _ (bb 3 _ rfl)
 .have aj:∀b,b≠ch->(w.setCell ⟨ch,fs.length*4+1,none⟩ (.int .i64 v)).heap[b]?=w.heap[b]?:=λb O=>aR O;have e1:pH (w.setCell ⟨ch,fs.length*4+1,none⟩ (.int .i64 v)) {f with pc:=v} ([.int .i64 f.proc,.int .i64 f.pc,.slice IA i ic,.slice bB l lc].set 1 (.int .i64 v)) (q++M2):=
   ⟨IA,i,ic,bB,l,lc,q,M2,rfl,rfl,al,hl,r.ak λb O=>aj b (nf b (by simp[O])),bm.ak λb O=>aj b (nf b (by simp[O]))⟩
  have e2:=d2 _ _ 1 (.int .i64 v) _ (λb O=>aj b (nf b (by simp at O ⊢;rcases O with O|O<;>simp[O]))) ad e1;rw[List.set_append_right _ _ (Lz _),Nat.sub_self,List.set_cons_zero] at e2;have e3:oP (w.setCell ⟨ch,fs.length*4+1,none⟩ (.int .i64 v)) (fs++[{f with pc:=v}]) _ _:=⟨some ⟨ch,0,none⟩,n,c,_,[ch],_,rfl,rfl,by simpa using cu,bu _ (.int .i64 v) (by rw[cu];omega),e2⟩
  have bH:=c1 _ _ _ (λb O=>aj b (nf b (by simp at O ⊢;rcases O with O|O<;>simp[O]))) e3;exact⟨h.gl,h.tl,by simpa using h.hl,h.g.ak λb O=>aj b (nf b (by simp[O])),h.t.ak λb O=>aj b (nf b (by simp[O])),h.h.ak λb O=>aj b (nf b (by simp at O;simp[O])),bH,nd⟩
 .obtain⟨T,rfl,rfl,cE,aL,W,R⟩:=r.block ad;have dH:∀b∈(F1++(F2++([O]++(S++(ch::a9)))))++(M2++(a6++g)),b≠T:=eJ (by simpa[LQ] using nd);have aj:∀b,b≠T->(w.setCell ⟨T,j,none⟩ (.int .i64 v)).heap[b]?=w.heap[b]?:=λb O=>aR O;have e0:=R j (.int .i64 v) ad;rw[show (f.ints.map dq).set j (.int .i64 v)=(f.ints.set j v).map dq from (List.map_set (f:=dq)).symm] at e0;have e1:pH (w.setCell ⟨T,j,none⟩ (.int .i64 v)) {f with ints:=f.ints.set j v} [.int .i64 f.proc,.int .i64 f.pc,.slice (some ⟨T,0,none⟩) i ic,.slice bB l lc] ([T]++M2):=
   ⟨some ⟨T,0,none⟩,i,ic,bB,l,lc,[T],M2,rfl,rfl,by simpa using al,hl,e0,bm.ak λb O=>aj b (dH b (by simp[O]))⟩
  have e2:=d1 _ _ _ (λb O=>aj b (dH b (by simp at O ⊢;rcases O with O|O<;>simp[O]))) e1;rw[List.set_append_right _ _ (Lz _),Nat.sub_self,List.set_cons_zero] at e2;have e3:oP (w.setCell ⟨T,j,none⟩ (.int .i64 v)) (fs++[{f with ints:=f.ints.set j v}]) _ _:=⟨some ⟨ch,0,none⟩,n,c,_,[ch],_,rfl,rfl,by simpa using cu,bn.ak λb O=>aj b (dH b (by simp at O;simp[O])),e2⟩
  have bH:=c1 _ _ _ (λb O=>aj b (dH b (by simp at O ⊢;rcases O with O|O<;>simp[O]))) e3;refine⟨T,rfl,cE,by simp,W _,⟨.int .i64 (f.ints[j]'ad),aL _ _ (by rw[List.getElem?_map,List.getElem?_eq_getElem ad];rfl)⟩,h.gl,h.tl,by simpa using h.hl,h.g.ak λb O=>aj b (dH b (by simp[O])),h.t.ak λb O=>aj b (dH b (by simp[O])),h.h.ak λb O=>aj b (dH b (by simp at O;simp[O])),bH,nd⟩
 .have aj:∀b,b≠O->(w.setCell ⟨O,k,none⟩ (.slice (some ⟨ch,0,none⟩) fs.length c)).heap[b]?=w.heap[b]?:=λb h=>aR h;obtain⟨Y,hp,H⟩:=J.take pH.len fs.length;rw[List.take_left] at hp;have M:∀b∈Y,b∈a9++(q++(M2++a6)):=λb O=>by have:=H.subset O;simpa[LQ] using this
  have e3:oP (w.setCell ⟨O,k,none⟩ (.slice (some ⟨ch,0,none⟩) fs.length c)) fs ([.slice (some ⟨ch,0,none⟩) n c].set 0 (.slice (some ⟨ch,0,none⟩) fs.length c)) ([ch]++Y):=
   ⟨some ⟨ch,0,none⟩,fs.length,c,_,[ch],Y,rfl,rfl,rfl,(bn.shorter (m:=fs.length) ad ad).ak λb O=>aj b (A b (by simp at O;simp[O])),hp.ak pH.ak λb O=>aj b (A b (by have:=M b O;simp at this ⊢;rcases this with h|h|h|h<;>simp[h]))⟩
  have bH:=c2 _ _ 0 (.slice (some ⟨ch,0,none⟩) fs.length c) _ (λb O=>aj b (A b (by simp at O ⊢;rcases O with O|O<;>simp[O]))) ad e3;rw[Nat.mul_one,LM] at bH;refine⟨_,_,⟨h.gl,h.tl,by simpa using h.hl,h.g.ak λb O=>aj b (A b (by simp[O])),h.t.ak λb O=>aj b (A b (by simp[O])),C k _ ad,bH,?_⟩,λb O=>?_⟩
  .refine List.Sublist.nodup (l₂:=F1++(F2++([O]++(S++(([ch]++(a9++((q++M2)++a6)))++g))))) ?_ nd;exact(List.Sublist.refl _).append ((List.Sublist.refl _).append ((List.Sublist.refl _).append ((List.Sublist.refl _).append (((List.Sublist.refl _).append H.sublist).append (List.Sublist.refl _)))))
  .simp only[LL] at O ⊢;rcases O with O|(O|O)|O
   .exact .inl O
   .exact .inr (.inl (.inl O))
   .exact .inr (.inl (.inr (by have:=H.subset O;simpa only[LL] using this)))
   .exact .inr (.inr O)
theorem rh.du(h:rh w s GA gn gc TA tn tc HA hn hc xs F1 F2 bI b9){j:Nat}(bi:j<gn):∃bj,GA=some ⟨bj,0,none⟩/\bj<w.heap.size/\w.frozen? ⟨bj,j,none⟩=false/\(∃u,w.cell? ⟨bj,j,none⟩=some u)/\bj∈F1/\
  ∀v,rh (w.setCell ⟨bj,j,none⟩ (.int .i64 v)) {s with globals:=s.globals.set j v} GA gn gc TA tn tc HA hn hc xs F1 F2 bI b9:=by
 obtain⟨bj,y,I,cu,ak,a,bF⟩:=h.g.block ad;subst y I;have nd:=h.nd;have ng:∀b∈[]++(F2++(bI++b9)),b≠bj:=eJ (by simpa using nd);have vz:=h.gl;refine⟨bj,rfl,cu,a _,⟨.int .i64 (s.globals[j]'ad),ak _ _ (by rw[List.getElem?_map,List.getElem?_eq_getElem ad];rfl)⟩,by simp,λv=>?_⟩;have aj:∀b,b≠bj->(w.setCell ⟨bj,j,none⟩ (.int .i64 v)).heap[b]?=w.heap[b]?:=λb O=>aR O;have e0:=bF j (.int .i64 v) ad;rw[show (s.globals.map dq).set j (.int .i64 v)=(s.globals.set j v).map dq from (List.map_set (f:=dq)).symm] at e0;exact⟨by simpa using h.gl,h.tl,h.hl,e0,h.t.ak λb O=>aj b (ng b (by simp[O])),h.h.ak λb O=>aj b (ng b (by simp[O])),h.hs.ak oP.ak λb O=>aj b (ng b (by simp[O])),nd⟩
theorem rh.IS(h:rh w s GA gn gc TA tn tc HA hn hc xs F1 F2 bI b9){T:List dc}{a4:Mk}{S:Nat}(hT:w.ownsRow 0 95 2 (.slice a4 m S) m (T.flatMap cb))(hl:m=T.length)(hd:∀b∈bx a4 m S,b∉F1++(F2++(bI++b9))):
  rh w {s with table:=T} GA gn gc a4 m S HA hn hc xs F1 (bx a4 m S) bI b9:=by
 refine⟨h.gl,hl,h.hl,h.g,⟨hT,rfl⟩,h.h,h.hs,?_⟩;have nd:=h.nd;have n1:=List.nodup_append.1 nd;have n2:=List.nodup_append.1 n1.2.1;refine List.nodup_append.2 ⟨n1.1,List.nodup_append.2 ⟨?_,n2.2.1,λa br b O H=>?_⟩,λa br b O H=>?_⟩
 .unfold bx;cases (Value.slice a4 m S).ownBlock<;>simp
 .subst H;exact hd a br (by simp at O ⊢;rcases O with O|O<;>simp[O])
 .subst H;rcases LL.1 O with O|O
  .exact hd a O (by simp[br])
  .exact n1.2.2 a br a (by simp at O ⊢;rcases O with O|O<;>simp[O]) rfl
end
theorem uq(l:List Int):l.flatMap cd=l.map dq:=ur l
theorem nE(A:Mk)(n c:Nat)(l:List Int)(w:World)(h:cA (EF cd) 1 w w.heap.size A n l)(hn:n<=100000) :
  Calls prog 86 #[.slice A n c] w λr ab=>∃I aD,r=.returned (.slice I n aD)/\ab.ownsRow w.heap.size 3 1 (.slice I n aD) n (l.map dq)/\Below w.heap.size w ab:=by
 have heq:=λW=>sf (P:=prog) W 22 3 A n c 0 0 Tryz.underlying22;rcases A with _|a
 .have ai:n=0:=by
   rcases Nat.eq_zero_or_pos n with h0|h0
   .exact h0
   .obtain⟨b,o,h,_⟩:=h.2 h0;cases h
  subst ai;have hT:l=[]:=List.eq_nil_of_length_eq_zero h.1;subst hT;go_enter func86,ntmps86;exact Aj
 .have aw:=Src.lT h (ho l) (m0 l) ad;rw[uq] at aw;go_enter func86,ntmps86;go_wp2_with(at_builtin;refine gi _ cU (by rfl) (.tmp 5) (.tmp 6) (by rfl) (by rfl) _ _ _ _ (by rfl) aw ad ad (λh=>nomatch h) ?_;intro cp c1 aP ay bX);go_ret;exact⟨cp,c1,rfl,ay,bX⟩
theorem Sl.nE{A:Mk}{n c:Nat}{l:List Int}{w:World}(h:Sl w (av w) A n (l.map D.i))(hn:n<=100000) :
  Calls prog 86 #[.slice A n c] w λr ab=>∃I aD,r=.returned (.slice I n aD)/\Own ab 3 1 I n aD (l.map dq) (bx I n aD)/\(∀b∈bx I n aD,w.heap.size<=b/\b<ab.heap.size)/\Ext w ab:=
 (Go.Proofs.YtflecliffjbleaaGreat.nE A n c l w h.ints hn).mono λr ab ⟨I,aD,a9,bn,O⟩=>⟨I,aD,a9,⟨iR bn (L3 _),rfl⟩,λb O=>bn.lt b (by simpa using O),Fr.of O⟩
theorem Sl.wi{A:Mk}{n c:Nat}{l:List dc}{w:World}(h:Sl w (av w) A n (l.map mf))(hn:n<=5000):
  Calls prog 87 #[.slice A n c] w λr ab=>∃I aD,r=.returned (.slice I n aD)/\Own ab 95 2 I n aD (l.flatMap cb) (bx I n aD)/\(∀b∈bx I n aD,w.heap.size<=b/\b<ab.heap.size)/\Ext w ab:=
 (nF A n c l w h.holds hn).mono λr ab ⟨I,aD,a9,bn,O⟩=>⟨I,aD,a9,⟨iR bn (L3 _),rfl⟩,λb O=>bn.lt b (by simpa using O),Fr.of O⟩
section
variable {P:Program} {e t:TypeId} {z:Value} {size bytes:Nat}
theorem fb(A:Mk)(n c:Nat):(bx A n c).Nodup:=by unfold bx;cases (Value.slice A n c).ownBlock<;>simp
namespace Cm
theorem BI{p:Prop}(h:p:=by
 refine h I aD ab ⟨bR,rfl⟩ (Mg.grown aY λg aY=>.inl (by rw[h0.eq];simp[aY])) λb O=>?_;have a4:(Value.slice I (n+1) aD).ownBlock=some b:=by simpa using O
 rcases H with H|H
 .rw[H] at a4;exact .inl (by rw[h0.eq];simp[a4])
 .have:=(bR.lt b a4).2;rw[H] at a4;injection a4 with a4;right;simp at a4;omega
 ):p:=h
end Cm
open Cm in
theorem yC{K:Act->World->Prop}(bO:cm P t e z size bytes)(s x:Operand)
  (bn:o.op=.call {callee:=.builtin .append,args:=#[s,x],argTypes:=#[t,t]})
  {A:Mk} {n c:Nat} {xs:List Value} {F:List Nat} (h0:Own S e size A n c xs F) {cs:Array Value}
  (hs:a.eval s=.slice A n c) (hx:a.eval x=.slice (some ⟨S.heap.size,0,none⟩) 1 1) (T:cs.size=size) (ac:∀u∈cs.toList,u.oneCell'=true)
  (r:(n+1)*bytes<=140737488355328) (y:n+1<=140737488355328)
  (h:∀I aD ab,Own ab e size I (n+1) aD (xs++cs.toList) (bx I (n+1) aD)->Fr (λb=>b∈F) S ab->(∀b∈bx I (n+1) aD,b∈F\/(S.heap.size<=b/\b<ab.heap.size))->K (a.put o.dst (.slice I (n+1) aD)) ab):o.wp P a (S.alloc (.cells cs e)) K Q:=by
 refine kn _ bO s x bn 0 _ n xs hs (h0.row.alloc _) _ 1 1 cs.toList hx (Src.block (heap_alloc_new S _) 1 ad ac) r y (L3 _) (λh=>nomatch h) λG ab bR cR H=>?_;exact BH
theorem oL{ops:Array Oper}{rest:List Oper}(bO:cm P t e z size bytes)(i:o.guard=none)(s x:Operand)
  (bn:o.op=.call {callee:=.builtin .append,args:=#[s,x],argTypes:=#[t,t]})
  {A:Mk} {n c:Nat} {xs:List Value} {F:List Nat} (h0:Own S e size A n c xs F) {cs:Array Value}
  (hs:a.eval s=.slice A n c) (hx:a.eval x=.slice (some ⟨S.heap.size,0,none⟩) 1 1) (T:cs.size=size) (ac:∀u∈cs.toList,u.oneCell'=true)
  (r:(n+1)*bytes<=140737488355328) (y:n+1<=140737488355328)
  (h:∀I aD ab,Own ab e size I (n+1) aD (xs++cs.toList) (bx I (n+1) aD)->Fr (λb=>b∈F) S ab->(∀b∈bx I (n+1) aD,b∈F\/(S.heap.size<=b/\b<ab.heap.size))->wpList P ops Q rest (a.put o.dst (.slice I (n+1) aD)) ab):wpList P ops Q (o::rest) a (S.alloc (.cells cs e)):=
 wpList_plain i λ_ hK=>yC bO s x bn h0 hs hx T ac r y λI aD ab ce g2 cN=>hK _ _ (h I aD ab ce g2 cN)
end
theorem yh{bE az f I:List Nat}{a:Nat}(h:(bE++az).Nodup)(ap:∀x∈bE++az,x<a)(hI:I.Nodup)(d:∀x∈I,a<=x/\x<b)(hK:f.Nodup)(g:∀x∈f,x∈bE\/b<=x)(H:a<=b):(f++(az++I)).Nodup:=by
 have h0:=List.nodup_append.1 h;refine List.nodup_append.2 ⟨hK,List.nodup_append.2 ⟨h0.2.1,hI,λx hx y bb c=>?_⟩,λx hx y bb c=>?_⟩
 .have:=ap x (by simp[hx]);have:=d y bb;omega
 .subst c;rcases LL.1 bb with bb|bb
  .rcases g x hx with ac|ac
   .exact h0.2.2 x ac x bb rfl
   .have:=ap x (by simp[bb]);omega
  .have ax:=d x bb;rcases g x hx with ac|ac
   .have:=ap x (by simp[ac]);omega
   .omega
theorem Il{X Y:List Nat}(hX:X.Nodup)(cq:Y.Nodup)(ac:∀x∈X,x<m)(ax:∀y∈Y,m<=y):(X++Y).Nodup:=
 List.nodup_append.2 ⟨hX,cq,λx hx y bb c=>by have:=ac x hx;have:=ax y bb;omega⟩
theorem wP{F1 F2 bI b9:List Nat}:(F1++(F2++(bI++b9))).Nodup↔(bI++(F1++(F2++b9))).Nodup:=by
 have h:(F1++(F2++(bI++b9))).Perm (bI++(F1++(F2++b9))):=by
  rw[<-List.append_assoc F1 F2,<-List.append_assoc (F1++F2) bI,<-List.append_assoc F1 F2 b9,<-List.append_assoc bI];exact List.perm_append_comm.append_right b9
 exact h.nodup_iff
structure Small(s:ai):Prop where
 g:s.globals.length<=1000
 t:s.table.length<=5000
 h:s.threads.length<=1000
 f:∀t∈s.threads,t.length<=1000000/\∀f∈t,f.ints.length<=100000/\f.ax.length<=100000
structure GK(B:Nat)(w:World)(s:ai)(GA:Mk)(gn gc:Nat)(TA:Mk)(tn tc N k:Nat)(HA:Mk)(hc:Nat)(xs:List Value)(bI b9:List Nat):Prop where
 st:rh w {s with threads:=s.threads.take k} GA gn gc TA tn tc HA k hc xs (bx GA gn gc) (bx TA tn tc) bI b9
 o:ao w N 30 #[.slice GA gn gc,.slice TA tn tc,.slice HA k hc,.int .i64 s.fault]
 ne:N∉bx GA gn gc++(bx TA tn tc++(bI++b9))
 lo:∀b∈bx GA gn gc++(bx TA tn tc++(bI++b9)),B<=b/\b<w.heap.size
 go:B<=N
section
variable {B:Nat} {w ab:World} {s:ai} {GA TA HA:Mk} {gn gc tn tc N k hc:Nat} {xs:List Value} {bI b9:List Nat}
theorem GK.aj(h:GK B w s GA gn gc TA tn tc N k HA hc xs bI b9)(he:Ext w ab):GK B ab s GA gn gc TA tn tc N k HA hc xs bI b9:=
 ⟨h.st.ak λb O=>he.block b (h.lo b O).2 λh=>h,h.o.aj he,h.ne,λb O=>⟨(h.lo b O).1,LC (h.lo b O).2 he.size⟩,h.go⟩
theorem GK.step(h:GK B w s GA gn gc TA tn tc N k HA hc xs bI b9)(bv:s.threads[k]?=some fs){FA:Mk}{n c:Nat}{cG:List Value}{bE az:List Nat}{aP aW:World}(he:Ext w aP)
  (bn:Own aP 99 4 FA n c cG bE) (J:kp pH aP fs cG az) (hn:n=fs.length) (nd:(bE++az).Nodup) (hK:∀b∈bE++az,w.heap.size<=b/\b<aP.heap.size)
  {bl:Mk} {aX:Nat} (a9:Own aW 49 1 bl (k+1) aX (xs++[.slice FA n c]) (bx bl (k+1) aX)) (b3:Fr (λb=>b∈bI) aP aW) (r:∀b∈bx bl (k+1) aX,b∈bI\/(aP.heap.size<=b/\b<aW.heap.size)) {X:World}
  (hX:aW.setCell ⟨N,2,none⟩ (.slice bl (k+1) aX)=X):GK B X s GA gn gc TA tn tc N (k+1) bl aX (xs++[.slice FA n c]) (bx bl (k+1) aX) (b9++(bE++az)):=by
 have hw:=he.size;have bP:=b3.size;have cW:N<w.heap.size:=h.o.lt;have m:=h.st.nd;have l:=wP.1 m;have n2:=List.nodup_append.1 l;have j:∀b∈bx GA gn gc++(bx TA tn tc++b9),b∉bI:=λb O a1=>n2.2.2 b a1 b O rfl;have ap:∀b∈bx GA gn gc++(bx TA tn tc++b9),b<w.heap.size/\b≠N:=λb O=>by
  have a4:b∈bx GA gn gc++(bx TA tn tc++(bI++b9)):=by
   exact zW
  exact⟨(h.lo b a4).2,λhe=>h.ne (he▸a4)⟩
 have a5:∀b∈bI,b<w.heap.size/\b≠N:=λb O=>by
  have a4:b∈bx GA gn gc++(bx TA tn tc++(bI++b9)):=by simp[O]
  exact⟨(h.lo b a4).2,λhe=>h.ne (he▸a4)⟩
 have i:∀b,b≠N->X.heap[b]?=aW.heap[b]?:=λb O=>by rw[<-hX];exact aR O
 have cx:X.heap.size=aW.heap.size:=by rw[<-hX];simp[World.setCell]
 have d:∀b∈bx GA gn gc++(bx TA tn tc++b9),X.heap[b]?=w.heap[b]?:=λb O=>
  (i b (ap b O).2).trans ((b3.block b (by have:=(ap b O).1;omega) (j b O)).trans (he.block b (ap b O).1 λh=>h))
 have f:∀b∈bE++az,X.heap[b]?=aP.heap[b]?:=λb O=>
  (i b (aB (hK b O))).trans (b3.block b (hK b O).2 λa1=>by have:=hK b O;have:=(a5 b a1).1;omega)
 have g:∀b∈bx bl (k+1) aX,b≠N:=λb O=>by
  rcases r b O with ac|ac
  .exact(a5 b ac).2
  .omega
 have aK:oP X fs [.slice FA n c] (bE++az):=⟨FA,n,c,cG,bE,az,rfl,rfl,hn,bn.ak λb O=>f b (by simp[O]),J.ak pH.ak λb O=>f b (by simp[O])⟩
 have eW:s.threads.take (k+1)=s.threads.take k++[fs]:=aU bv;refine⟨⟨h.st.gl,h.st.tl,?_,h.st.g.ak λb O=>d b (by simp only[LL];exact .inl O),h.st.t.ak λb O=>d b (by simp only[LL];exact .inr (.inl O)),a9.ak λb O=>i b (g b O),?_,?_⟩,?_,?_,λb O=>?_,h.go⟩
 .have:=h.st.hl;show k+1=(s.threads.take (k+1)).length
  rw[eW,LD,<-this];rfl
 .show kp oP X (s.threads.take (k+1)) _ _
  rw[eW];exact(h.st.hs.ak oP.ak λb O=>d b (by simp[O])).snoc aK
 .refine wP.2 ?_;rw[show bx GA gn gc++(bx TA tn tc++(b9++(bE++az)))=(bx GA gn gc++(bx TA tn tc++b9))++(bE++az) by simp];refine yh (a:=w.heap.size) (b:=aP.heap.size) l (λx hx=>?_) nd hK (fb _ _ _) (λx hx=>(r x hx).imp id λh=>h.1) hw;rcases LL.1 hx with hx|hx
  .exact(a5 x hx).1
  .exact(ap x hx).1
 .have:=(h.o.aj he).on b3 λa1=>(a5 _ a1).2 rfl;rw[<-hX];exact this.aJ 2 _
 .intro aY;simp only[LL] at aY;have ac:=h.ne;simp only[LL] at ac;rcases aY with aY|aY|aY|aY|aY|aY
  .exact ac (.inl aY)
  .exact ac (.inr (.inl aY))
  .exact g _ aY rfl
  .exact ac (.inr (.inr (.inr aY)))
  .have:=hK N (by simp[aY]);omega
  .have:=hK N (by simp[aY]);omega
 .rw[cx];simp only[LL] at O;have hl:=h.lo;rcases O with O|O|O|O|O|O
  .have:=hl b (by simp[O]);omega
  .have:=hl b (by simp[O]);omega
  .rcases r b O with ac|ac
   .have:=hl b (by simp[ac]);omega
   .have:=h.go;omega
  .have:=hl b (by simp[O]);omega
  .have:=hK b (by simp[O]);have:=h.go;omega
  .have:=hK b (by simp[O]);have:=h.go;omega
end
end Go.Proofs.YtflecliffjbleaaGreat
