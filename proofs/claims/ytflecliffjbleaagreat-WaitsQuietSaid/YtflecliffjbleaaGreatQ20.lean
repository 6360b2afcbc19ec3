/- Part 20 of the proof. No condition of its own. -/
import Derived.Test.YtflecliffjbleaaGreatQ19
namespace Go.Proofs.YtflecliffjbleaaGreat
open Go.RowKit Go.Proofs.Tryz
set_option maxRecDepth 1000000
set_option maxHeartbeats 25600000
set_option linter.unusedVariables false
variable{F F1 F2:List Nat}{xs:List Value}{m n:Nat}{e:TypeId}{v1 v2:Value}{ac:World}
def ij(e:TypeId)(z n:Nat)(xs:List Value)(w:World)(st:Nat)(v1 v2:Value)(F:List Nat):Prop:=
 (st=0/\v1=undef/\v2=undef/\F=[])\/(st=1/\v2=undef/\∃A,v1=.slice A 0 0/\Own w e z A 0 0 [] F)\/(st=2/\∃A c,v2=.slice A n c/\Own w e z A n c xs F)
theorem ij.ai{e:TypeId}{z n:Nat}{xs:List Value}{w ac:World}{st:Nat}{v1 v2:Value}{F:List Nat}(h:ij e z n xs w st v1 v2 F)(ai:∀b∈F,ac.heap[b]?=w.heap[b]?):ij e z n xs ac st v1 v2 F:=by
 rcases h with h|⟨ae,aD,A,aU,a1⟩|⟨ae,A,c,aD,aU⟩
 .exact .inl h
 .exact .inr (.inl ⟨ae,aD,A,aU,a1.ai ai⟩)
 .exact .inr (.inr ⟨ae,A,c,aD,aU.ai ai⟩)
def xO(g t h:Nat)(b:Bool):List Nat:=
 (bif g == 0 then [0] else [])++((bif g == 1 then [3] else [])++((bif t == 0 then [4] else [])++((bif t == 1 && g == 2 then [7] else [])++((bif h == 0 then [8] else [])++((bif h == 1 && t == 2 then [11] else [])++(bif b then [] else [15]))))))
def GL(b:Bool):PT:=bif b then .pick [16] (λ_=>.stop) else .pick [15] (λ_=>.pick [16] (λ_=>.stop))
def jk:Nat->Nat->Nat->Nat->Bool->PT
 | 0,_,_,_,_=>.stop
 | f+1,g,t,h,b=>bif h == 2 then .free 14 (GL b) else .pick (xO g t h b) λi=>
   bif i == 0 then jk f 1 t h b else bif i == 3 then jk f 2 t h b else bif i == 4 then jk f g 1 h b else bif i == 7 then jk f g 2 h b else bif i == 8 then jk f g t 1 b else bif i == 11 then jk f g t 2 b else jk f g t h true
structure gW(W:World)(s:ag)(gn tn hn:Nat)(hx:List Value)(w:World)(g t h:Nat)(b:Bool)(bi bM v10 v11 aF aT aN:Value)(F1 F2 L N:List Nat):Prop where
 ext:Ext W w
 g:ij 3 1 gn (s.globals.map eJ) w g bM v10 F1
 t:ij 95 2 tn (s.table.flatMap cG) w t v11 aF F2
 h:ij 49 1 hn hx w h aT aN L
 o:(b=false/\bi=undef/\N=[])\/(b=true/\∃r,bi=.pointer (some ⟨r,0,none⟩)/\N=[r]/\an w r 30 #[.slice none 0 0,.slice none 0 0,.slice none 0 0,.int .i64 0])
 nd:(F1++(F2++(L++N))).Nodup
 lo:∀k∈F1++(F2++(L++N)),W.heap.size<=k/\k<w.heap.size
theorem qu(h:(F1++F2).Nodup)(hl:∀k∈F1++F2,k<m):(F1++(m::F2)).Nodup:=
 (List.perm_middle (a:=m) (l₁:=F1) (l₂:=F2)).nodup_iff.2 (List.nodup_cons.2 ⟨λh=>by have:=hl m h;omega,h⟩)
theorem s9{A B q C:List Nat}(h:(A++(B++C)).Nodup)(hl:∀k∈A++(B++C),k<m)(aN:q.Nodup)(hn:∀k∈q,k∈B\/m<=k):(A++(q++C)).Nodup:=by
 have ae:=List.nodup_append.1 h;have aD:=List.nodup_append.1 ae.2.1;refine List.nodup_append.2 ⟨ae.1,List.nodup_append.2 ⟨aN,aD.2.1,λx hx y a4 c=>?_⟩,λx hx y a4 c=>?_⟩
 .subst c;rcases hn x hx with aU|aU
  .exact aD.2.2 x aU x a4 rfl
  .have:=hl x (by simp[a4]);omega
 .subst c;rcases Lk.1 a4 with a4|a4
  .rcases hn x a4 with aU|aU
   .exact ae.2.2 x hx x (by simp[aU]) rfl
   .have:=hl x (by simp[hx]);omega
  .exact ae.2.2 x hx x (by simp[a4]) rfl
section
variable {a:Act} {w:World} {K:Act->World->Prop} {Q:Exit->Act->World->Prop} {dst:Option Nat} {ty:TypeId} {p:String} {ao:Array Edge}
theorem EC(h:K (a.put dst (.slice (some ⟨w.heap.size,0,none⟩) 0 0)) (w.alloc (.cells #[] 3))):Oper.wp prog ⟨dst,.buildSlice 22 0 #[],ty,p,ao,none⟩ a w K Q:=by
 go_simp;exact h
theorem HT(h:K (a.put dst (.slice (some ⟨w.heap.size,0,none⟩) 0 0)) (w.alloc (.cells #[] 95))):Oper.wp prog ⟨dst,.buildSlice 27 0 #[],ty,p,ao,none⟩ a w K Q:=by
 go_simp;exact h
theorem HU(h:K (a.put dst (.slice (some ⟨w.heap.size,0,none⟩) 0 0)) (w.alloc (.cells #[] 49))):Oper.wp prog ⟨dst,.buildSlice 28 0 #[],ty,p,ao,none⟩ a w K Q:=by
 go_simp;exact h
theorem HS(h:K (a.put dst (.pointer (some ⟨w.heap.size,0,none⟩))) (w.alloc (.cells #[.slice none 0 0,.slice none 0 0,.slice none 0 0,.int .i64 0] 30))):Oper.wp prog ⟨dst,.alloc 30,ty,p,ao,none⟩ a w K Q:=by
 go_simp;exact h
end
theorem ij.begin{z:Nat}{w:World}(h:ij e z n xs w 0 v1 v2 F)(hw:w.alloc (.cells #[] e)=ac):F=[]/\v2=undef/\ij e z n xs ac 1 (.slice (some ⟨w.heap.size,0,none⟩) 0 0) v2 [w.heap.size]:=by
 rcases h with⟨_,_,aD,aU⟩|⟨h,_⟩|⟨h,_⟩
 .subst hw;exact⟨aU,aD,.inr (.inl ⟨rfl,aD,_,rfl,⟨World.ownsRow_made w #[] 0 (Lx _) (Lx _) (by simp),rfl⟩⟩)⟩
 .cases h
 .cases h
theorem ij.fill{P:Program}{t:TypeId}{z:Value}{size bytes:Nat}{w:World}(h:ij e size n xs w 1 v1 v2 F){o:Oper}{a:Act}{K:Act->World->Prop}{Q:Exit->Act->World->Prop}(bp:ca P t e z size bytes)(s x:Operand)
  (bl:o.op=.call {callee:=.builtin .append,args:=#[s,x],argTypes:=#[t,t]}) (hs:a.eval s=v1) {A:LP} {c:Nat} (hx:a.eval x=.slice A n c) (aQ:Src w size A n xs) (O:n*bytes<=140737488355328) (C:n<=140737488355328) (d:A=none->n=0)
  (hK:∀v ac Y,ij e size n xs ac 2 v1 v Y->Fr (λk=>k∈F) w ac->Y.Nodup->(∀k∈Y,(k∈F\/w.heap.size<=k)/\k<ac.heap.size)->K (a.put o.dst v) ac):o.wp P a w K Q:=by
 rcases h with⟨h,_⟩|⟨_,_,B,bD,f⟩|⟨h,_⟩
 .cases h
 .rw[bD] at hs;refine kf _ bp s x bl 0 _ 0 [] hs f.row A n c xs hx aQ (by rw[Lt];exact O) ab (Lx _) d λG ac bJ aZ H=>?_;simp only[Lt,LD] at bJ;obtain⟨I,aA,rfl,hc,_⟩:=bx bJ;refine hK _ ac (bA I n aA) (.inr (.inr ⟨rfl,I,aA,rfl,bJ,rfl⟩)) (LL.grown aZ λg aK=>.inl (by rw[f.eq];simp[aK])) (gJ _ _ _) λb O=>?_;have aX:(Value.slice I n aA).ownBlock=some b:=by simpa using O
  refine⟨?_,(bJ.lt b aX).2⟩;rcases H with H|H
  .rw[H] at aX;exact .inl (by rw[f.eq];simp[aX])
  .rw[H] at aX;injection aX with aX;right;omega
 .cases h
section
variable {ops:Array Oper} {Q:Exit->Act->World->Prop} {W:World} {s:ag} {gn tn hn gc tc hc:Nat} {GA TA HA:LP} {hx:List Value} {ws:Nat} {aa:Value->Value->Value->Value->Value->Value->Value->Act}
 {p0 p3 p4 p7 p8 p11 p15:String} {a0 a3 a4 a7 a8 a11 a15:Array Edge} {t15:TypeId}
theorem gW.dh{L N:List Nat}{k:Nat}:k∈F1++(F2++(L++N))↔k∈F1\/k∈F2\/k∈L\/k∈N:=by simp only[Lk]
theorem World.kY(w:World)(o:Obj):(w.alloc o).heap.size=w.heap.size+1:=by first|(simp;done)|(cases o<;>simp;done)|(unfold World.alloc;simp;done)|rfl
theorem gW.gf{w:World}{M:List Nat}(J:Fr (λk=>k∈M) w ac)(aw:∀k∈F,k<w.heap.size)(hd:∀k∈F,k∉M):∀k∈F,ac.heap[k]?=w.heap[k]?:=λk ai=>J.block k (aw k ai) (hd k ai)
theorem EX(hG:Sl W (au W) GA gn (s.globals.map D.i))(hT:Sl W (au W) TA tn (s.table.map mQ))(hH:Src W 1 HA hn hx)(Ju:HA=none->hn=0)(yM:gn<=100000)(EG:tn<=100000)(Hu:hn<=100000)(np:ws<=W.heap.size)
  (o0:ops[0]?=some ⟨some 7,.buildSlice 22 0 #[],22,p0,a0,none⟩)
  (o3:ops[3]?=some ⟨some 10,.call {callee:=.builtin .append,args:=#[.tmp 7,.tmp 9],argTypes:=#[22,22]},22,p3,a3,none⟩)
  (o4:ops[4]?=some ⟨some 11,.buildSlice 27 0 #[],27,p4,a4,none⟩)
  (o7:ops[7]?=some ⟨some 14,.call {callee:=.builtin .append,args:=#[.tmp 11,.tmp 13],argTypes:=#[27,27]},27,p7,a7,none⟩)
  (o8:ops[8]?=some ⟨some 15,.buildSlice 28 0 #[],28,p8,a8,none⟩)
  (Jx:ops[11]?=some ⟨some 18,.call {callee:=.builtin .append,args:=#[.tmp 15,.tmp 17],argTypes:=#[28,28]},28,p11,a11,none⟩)
  (Jy:ops[15]?=some ⟨some 5,.alloc 30,t15,p15,a15,none⟩)
  (q5:∀a b c d e f g x,(aa a b c d e f g).put (some 5) x=aa x b c d e f g) (q7:∀a b c d e f g x,(aa a b c d e f g).put (some 7) x=aa a x c d e f g) (EI:∀a b c d e f g x,(aa a b c d e f g).put (some 10) x=aa a b x d e f g)
  (I1:∀a b c d e f g x,(aa a b c d e f g).put (some 11) x=aa a b c x e f g) (JI:∀a b c d e f g x,(aa a b c d e f g).put (some 14) x=aa a b c d x f g) (JJ:∀a b c d e f g x,(aa a b c d e f g).put (some 15) x=aa a b c d e x g) (JK:∀a b c d e f g x,(aa a b c d e f g).put (some 18) x=aa a b c d e f x)
  (e7:∀a b c d e f g,(aa a b c d e f g).eval (.tmp 7)=b) (e9:∀a b c d e f g,(aa a b c d e f g).eval (.tmp 9)=.slice GA gn gc) (Jo:∀a b c d e f g,(aa a b c d e f g).eval (.tmp 11)=d) (Jp:∀a b c d e f g,(aa a b c d e f g).eval (.tmp 13)=.slice TA tn tc)
  (Jq:∀a b c d e f g,(aa a b c d e f g).eval (.tmp 15)=f) (Jr:∀a b c d e f g,(aa a b c d e f g).eval (.tmp 17)=.slice HA hn hc)
  (hP:∀b bi bM v10 v11 aF aT aN F1 F2 L N w,gW W s gn tn hn hx w 2 2 2 b bi bM v10 v11 aF aT aN F1 F2 L N->cQ prog ops Q (Fr (λk=>¬k<ws)) [16] (.free 14 (GL b)) (aa bi bM v10 v11 aF aT aN) w) :
  ∀(n g t h:Nat) (b:Bool),g<=2->t<=2->h<=2->(t=2->g=2)->(h=2->t=2)->7<n+g+t+h+b.toNat->∀bi bM v10 v11 aF aT aN F1 F2 L N w,gW W s gn tn hn hx w g t h b bi bM v10 v11 aF aT aN F1 F2 L N->
   cQ prog ops Q (Fr (λk=>¬k<ws)) [16] (jk n g t h b) (aa bi bM v10 v11 aF aT aN) w:=by
 intro n
 induction n with
 | zero=>intro g t h b aK ht aH _ _ hn;cases b<;>simp at hn<;>omega
 | succ n ao=>
  intro g t h b aK ht aH cN E J bi bM v10 v11 aF aT aN F1 F2 L N w hS;unfold jk;by_cases aD:h=2
  .have b7:=E aD;have al:=cN b7;subst aD b7 al;exact hP _ _ _ _ _ _ _ _ _ _ _ _ _ hS
  have a9:(h == 2)=false:=by simpa using aD
  rw[a9];have aG:=hS.lo;have af:=hS.ext.size;have aw:∀k∈F1++(F2++(L++N)),k<w.heap.size:=λk ai=>(aG k ai).2;have z:∀o:Obj,Fr (λk=>¬k<ws) w (w.alloc o):=λo=>LL.alloc o;have m:∀(o:Obj) (k:Nat),k<w.heap.size->(w.alloc o).heap[k]?=w.heap[k]?:=λo k ai=>Below.heap_alloc w o k ai;have U:∀o:Obj,(w.alloc o).heap.size=w.heap.size+1:=λo=>World.kY w o;intro i ak;simp only[xO,Lk] at ak;rcases ak with ak|ak|ak|ak|ak|ak|ak
  ·
   cases u:(g == 0) with
   | false=>rw[u] at ak;exact absurd ak (by simp)
   | true=>
   rw[u] at ak;have ch:g=0:=by simpa using u
   have i0:i=0:=by simpa using ak
   subst ch i0;obtain⟨y,_,aQ⟩:=hS.g.begin rfl;subst y;refine⟨_,o0,λK hK=>?_⟩;rw[if_pos (by rfl)];refine EC (hK _ _ (λ_=>z _) ?_);rw[q7];refine ao 1 t h b ab ht aH ab E ab _ _ _ _ _ _ _ [w.heap.size] F2 L N _ ⟨hS.ext.alloc _,aQ,hS.t.ai λk ai=>m _ k (aw k (gW.dh.2 (by simp[ai]))),hS.h.ai λk ai=>m _ k (aw k (gW.dh.2 (by simp[ai]))),?_,?_,?_⟩
   .rcases hS.o with ae|⟨ae,r,aU,a1,cd⟩
    .exact .inl ae
    .exact .inr ⟨ae,r,aU,a1,cd.alloc _⟩
   .exact qu (F1:=[]) hS.nd aw
   .intro k ai;rw[U];simp only[Lk,Lr,List.not_mem_nil,or_false] at ai;rcases ai with ai|ai
    .omega
    .have:=aG k (by simpa using ai);omega
  ·
   cases u:(g == 1) with
   | false=>rw[u] at ak;exact absurd ak (by simp)
   | true=>
   rw[u] at ak;have b9:g=1:=by simpa using u
   subst b9;have i0:i=3:=by simpa using ak
   subst i0;refine⟨_,o3,λK hK=>?_⟩;rw[if_pos (by rfl)];refine ij.fill hS.g de (.tmp 7) (.tmp 9) rfl (e7 _ _ _ _ _ _ _) (e9 _ _ _ _ _ _ _) (by have:=Src.ov (hG.on (Fr.ext hS.ext)).ints (iA _) (qA _) ab;rwa [xW] at this) ab ab (λh=>by subst h;exact hG.none_) (λv ac Y aQ H aS T=>?_);have cb:=H.size;have l:∀k∈F1,W.heap.size<=k:=λk ai=>(aG k (gW.dh.2 (by simp[ai]))).1;have R:Ext W ac:=Fr.low (M:=λk=>k∈F1) (Fr.trans (Fr.mono hS.ext λ_ h=>h.elim) H) l;refine hK _ _ (λ_=>H.mono λk ai=>by have:=l k ai;omega) ?_;rw[EI];have j:∀k,k∈F1++(F2++(L++N))->k∉F1->ac.heap[k]?=w.heap[k]?:=λk ai hn=>H.block k (aw k ai) hn;have n1:=List.nodup_append.1 hS.nd;have n2:=List.nodup_append.1 n1.2.1;have n3:=List.nodup_append.1 n2.2.1;refine ao 2 t h b ab ht aH ab E ab _ _ _ _ _ _ _ Y F2 L N _ ⟨R,aQ,hS.t.ai (λk ai=>j k (gW.dh.2 (by simp[ai])) (λae=>n1.2.2 k ae k (by simp[ai]) rfl)),hS.h.ai (λk ai=>j k (gW.dh.2 (by simp[ai])) (λae=>n1.2.2 k ae k (by simp[ai]) rfl)),?_,?_,?_⟩
   .rcases hS.o with ae|⟨ae,r,aU,a1,cd⟩
    .exact .inl ae
    .have q:∀k∈N,k∉F1:=λk ai=>λae=>n1.2.2 k ae k (by simp[ai]) rfl;exact .inr ⟨ae,r,aU,a1,show _=_ from (j r (gW.dh.2 (by simp[a1])) (q r (by simp[a1]))).trans cd⟩
   .exact s9 (A:=[]) hS.nd aw aS λk ai=>(T k ai).1
   .intro k ai;rcases gW.dh.1 ai with ai|ai|ai|ai
    .have:=T k ai;have:W.heap.size<=k:=by rcases this.1 with ae|ae;exact l k ae;omega
     omega
    .have:=aG k (gW.dh.2 (by simp[ai]));omega
    .have:=aG k (gW.dh.2 (by simp[ai]));omega
    .have:=aG k (gW.dh.2 (by simp[ai]));omega
  ·
   cases u:(t == 0) with
   | false=>rw[u] at ak;exact absurd ak (by simp)
   | true=>
   rw[u] at ak;have ch:t=0:=by simpa using u
   have i0:i=4:=by simpa using ak
   subst ch i0;obtain⟨y,_,aQ⟩:=hS.t.begin rfl;subst y;refine⟨_,o4,λK hK=>?_⟩;rw[if_pos (by rfl)];refine HT (hK _ _ (λ_=>z _) ?_);rw[I1];refine ao g 1 h b aK ab aH ab (λh=>ab) ab _ _ _ _ _ _ _ F1 [w.heap.size] L N _ ⟨hS.ext.alloc _,hS.g.ai λk ai=>m _ k (aw k (gW.dh.2 (by simp[ai]))),aQ,hS.h.ai λk ai=>m _ k (aw k (gW.dh.2 (by simp[ai]))),?_,?_,?_⟩
   .rcases hS.o with ae|⟨ae,r,aU,a1,cd⟩
    .exact .inl ae
    .exact .inr ⟨ae,r,aU,a1,cd.alloc _⟩
   .exact qu (F1:=F1) hS.nd aw
   .intro k ai;rw[U];rcases gW.dh.1 ai with ai|ai|ai|ai
    .have:=aG k (gW.dh.2 (by simp[ai]));omega
    .have:=LF.1 ai;omega
    .have:=aG k (gW.dh.2 (by simp[ai]));omega
    .have:=aG k (gW.dh.2 (by simp[ai]));omega
  ·
   cases u:(t == 1 && g == 2) with
   | false=>rw[u] at ak;exact absurd ak (by simp)
   | true=>
   rw[u] at ak;simp only[Ln,beq_iff_eq] at u;obtain⟨t1,g2⟩:=u;subst t1 g2;have i0:i=7:=by simpa using ak
   subst i0;refine⟨_,o7,λK hK=>?_⟩;rw[if_pos (by rfl)];refine ij.fill hS.t oP (.tmp 11) (.tmp 13) rfl (Jo _ _ _ _ _ _ _) (Jp _ _ _ _ _ _ _) (Src.ov (hT.on (Fr.ext hS.ext)).holds (eZ _) (nJ _) ab) ab ab (λh=>by subst h;exact hT.none_) (λv ac Y aQ H aS T=>?_);have cb:=H.size;have l:∀k∈F2,W.heap.size<=k:=λk ai=>(aG k (gW.dh.2 (by simp[ai]))).1;have R:Ext W ac:=Fr.low (M:=λk=>k∈F2) (Fr.trans (Fr.mono hS.ext λ_ h=>h.elim) H) l;refine hK _ _ (λ_=>H.mono λk ai=>by have:=l k ai;omega) ?_;rw[JI];have j:∀k,k∈F1++(F2++(L++N))->k∉F2->ac.heap[k]?=w.heap[k]?:=λk ai hn=>H.block k (aw k ai) hn;have n1:=List.nodup_append.1 hS.nd;have n2:=List.nodup_append.1 n1.2.1;have n3:=List.nodup_append.1 n2.2.1;refine ao 2 2 h b aK ab aH ab ab ab _ _ _ _ _ _ _ F1 Y L N _ ⟨R,hS.g.ai (λk ai=>j k (gW.dh.2 (by simp[ai])) (λae=>n1.2.2 k ai k (by simp[ae]) rfl)),aQ,hS.h.ai (λk ai=>j k (gW.dh.2 (by simp[ai])) (λae=>n2.2.2 k ae k (by simp[ai]) rfl)),?_,?_,?_⟩
   .rcases hS.o with ae|⟨ae,r,aU,a1,cd⟩
    .exact .inl ae
    .have q:∀k∈N,k∉F2:=λk ai=>λae=>n2.2.2 k ae k (by simp[ai]) rfl;exact .inr ⟨ae,r,aU,a1,show _=_ from (j r (gW.dh.2 (by simp[a1])) (q r (by simp[a1]))).trans cd⟩
   .exact s9 (A:=F1) hS.nd aw aS λk ai=>(T k ai).1
   .intro k ai;rcases gW.dh.1 ai with ai|ai|ai|ai
    .have:=aG k (gW.dh.2 (by simp[ai]));omega
    .have:=T k ai;have:W.heap.size<=k:=by rcases this.1 with ae|ae;exact l k ae;omega
     omega
    .have:=aG k (gW.dh.2 (by simp[ai]));omega
    .have:=aG k (gW.dh.2 (by simp[ai]));omega
  ·
   cases u:(h == 0) with
   | false=>rw[u] at ak;exact absurd ak (by simp)
   | true=>
   rw[u] at ak;have ch:h=0:=by simpa using u
   have i0:i=8:=by simpa using ak
   subst ch i0;obtain⟨y,_,aQ⟩:=hS.h.begin rfl;subst y;refine⟨_,o8,λK hK=>?_⟩;rw[if_pos (by rfl)];refine HU (hK _ _ (λ_=>z _) ?_);rw[JJ];refine ao g t 1 b aK ht ab cN ab ab _ _ _ _ _ _ _ F1 F2 [w.heap.size] N _ ⟨hS.ext.alloc _,hS.g.ai λk ai=>m _ k (aw k (gW.dh.2 (by simp[ai]))),hS.t.ai λk ai=>m _ k (aw k (gW.dh.2 (by simp[ai]))),aQ,?_,?_,?_⟩
   .rcases hS.o with ae|⟨ae,r,aU,a1,cd⟩
    .exact .inl ae
    .exact .inr ⟨ae,r,aU,a1,cd.alloc _⟩
   .have:=qu (F1:=F1++F2) (F2:=N) (by simpa using hS.nd) (by simpa using aw);simpa using this
   .intro k ai;rw[U];rcases gW.dh.1 ai with ai|ai|ai|ai
    .have:=aG k (gW.dh.2 (by simp[ai]));omega
    .have:=aG k (gW.dh.2 (by simp[ai]));omega
    .have:=LF.1 ai;omega
    .have:=aG k (gW.dh.2 (by simp[ai]));omega
  ·
   cases u:(h == 1 && t == 2) with
   | false=>rw[u] at ak;exact absurd ak (by simp)
   | true=>
   rw[u] at ak;simp only[Ln,beq_iff_eq] at u;obtain⟨ae,t2⟩:=u;have g2:=cN t2;subst ae t2 g2;have i0:i=11:=by simpa using ak
   subst i0;refine⟨_,Jx,λK hK=>?_⟩;rw[if_pos (by rfl)];refine ij.fill hS.h C0 (.tmp 15) (.tmp 17) rfl (Jq _ _ _ _ _ _ _) (Jr _ _ _ _ _ _ _) (hH.on (Fr.ext hS.ext)) ab ab Ju (λv ac Y aQ H aS T=>?_);have cb:=H.size;have l:∀k∈L,W.heap.size<=k:=λk ai=>(aG k (gW.dh.2 (by simp[ai]))).1;have R:Ext W ac:=Fr.low (M:=λk=>k∈L) (Fr.trans (Fr.mono hS.ext λ_ h=>h.elim) H) l;refine hK _ _ (λ_=>H.mono λk ai=>by have:=l k ai;omega) ?_;rw[JK];have j:∀k,k∈F1++(F2++(L++N))->k∉L->ac.heap[k]?=w.heap[k]?:=λk ai hn=>H.block k (aw k ai) hn;have n1:=List.nodup_append.1 hS.nd;have n2:=List.nodup_append.1 n1.2.1;have n3:=List.nodup_append.1 n2.2.1;refine ao 2 2 2 b aK ht ab ab ab ab _ _ _ _ _ _ _ F1 F2 Y N _ ⟨R,hS.g.ai (λk ai=>j k (gW.dh.2 (by simp[ai])) (λae=>n1.2.2 k ai k (by simp[ae]) rfl)),hS.t.ai (λk ai=>j k (gW.dh.2 (by simp[ai])) (λae=>n2.2.2 k ai k (by simp[ae]) rfl)),aQ,?_,?_,?_⟩
   .rcases hS.o with ae|⟨ae,r,aU,a1,cd⟩
    .exact .inl ae
    .have q:∀k∈N,k∉L:=λk ai=>λae=>n3.2.2 k ae k ai rfl;exact .inr ⟨ae,r,aU,a1,show _=_ from (j r (gW.dh.2 (by simp[a1])) (q r (by simp[a1]))).trans cd⟩
   .have:=s9 (A:=F1++F2) (B:=L) (C:=N) (by simpa using hS.nd) (by simpa using aw) aS (λk ai=>(T k ai).1);simpa using this
   .intro k ai;rcases gW.dh.1 ai with ai|ai|ai|ai
    .have:=aG k (gW.dh.2 (by simp[ai]));omega
    .have:=aG k (gW.dh.2 (by simp[ai]));omega
    .have:=T k ai;have:W.heap.size<=k:=by rcases this.1 with ae|ae;exact l k ae;omega
     omega
    .have:=aG k (gW.dh.2 (by simp[ai]));omega
  ·
   cases b with
   | true=>simp at ak
   | false=>
   have i0:i=15:=by simpa using ak
   subst i0;refine⟨_,Jy,λK hK=>?_⟩;rw[if_pos (by rfl)];refine HS (hK _ _ (λ_=>z _) ?_);rw[q5];have a1:N=[]:=by
    rcases hS.o with⟨_,_,h⟩|⟨h,_⟩
    .exact h
    .cases h
   subst a1;refine ao g t h true aK ht aH cN E (by simp at J ⊢;omega) _ _ _ _ _ _ _ F1 F2 L [w.heap.size] _ ⟨hS.ext.alloc _,hS.g.ai λk ai=>m _ k (aw k (gW.dh.2 (by simp[ai]))),hS.t.ai λk ai=>m _ k (aw k (gW.dh.2 (by simp[ai]))),hS.h.ai λk ai=>m _ k (aw k (gW.dh.2 (by simp[ai]))),.inr ⟨rfl,_,rfl,rfl,LM⟩,?_,?_⟩
   .have:=qu (F1:=F1++(F2++L)) (F2:=[]) (by simpa using hS.nd) (by simpa using aw);simpa using this
   .intro k ai;rw[U];rcases gW.dh.1 ai with ai|ai|ai|ai
    .have:=aG k (gW.dh.2 (by simp[ai]));omega
    .have:=aG k (gW.dh.2 (by simp[ai]));omega
    .have:=aG k (gW.dh.2 (by simp[ai]));omega
    .have:=LF.1 ai;omega
end
def x6(a b:Nat):List Nat:=(bif a == 0 then [0] else bif a == 1 then [3] else bif a == 2 then [6] else bif a == 3 then [8] else [])++(bif b == 0 then [18] else bif b == 1 then [20] else bif b == 2 then [22] else [])
def gH:Nat->Nat->Nat->PT
 | 0,_,_=>.stop
 | n+1,a,b=>bif a == 4 && b == 3 then .free 23 (.pick [24] λ_=>.stop) else .pick (x6 a b) λi=>
   bif i == 0 then gH n 1 b else bif i == 3 then gH n 2 b else bif i == 6 then .free 7 (gH n 3 b) else bif i == 8 then gH n 4 b else bif i == 18 then .free 19 (gH n a 1) else bif i == 20 then .free 21 (gH n a 2) else gH n a 3
abbrev wF(W w:World)(E:List Nat):Nat->Prop:=λk=>W.heap.size<=k/\k<w.heap.size/\k∉E
structure Ij(W:World)(gs:List Int)(gn m:Nat)(w:World)(a:Nat)(bz v6 bA v10 v11:Value)(E:List Nat):Prop where
 g:(a=0/\E=[]/\ij 3 1 gn (gs.map eJ) w 0 bz v6 [])\/(a=1/\ij 3 1 gn (gs.map eJ) w 1 bz v6 E)\/(2<=a/\E=[]/\∃F,ij 3 1 gn (gs.map eJ) w 2 bz v6 F/\∀k∈F,W.heap.size<=k/\k<w.heap.size)
 o:3<=a->v10=.int .i64 (m:Int)
 t:4<=a->∃A,v11=.slice A m m/\Sl w (wF W w []) A m ((List.replicate m ⟨0,0⟩).map mQ)
 e:∀k∈E,W.heap.size<=k/\k<w.heap.size
structure HY(W:World)(mi:Int)(L:Nat)(w:World)(b:Nat)(q s y G J:Value)(E:List Nat):Prop where
 i:1<=b->∃A,q=.slice A L L/\Sl w (wF W w E) A L ((List.replicate L 0).map D.i)/\s=.agg #[.int .i64 mi,.int .i64 0,.slice A L L,.slice none 0 0]
 f:2<=b->∃A,y=.slice A 1 1/\Sl w (wF W w E) A 1 ([(⟨mi,0,List.replicate L 0,[]⟩:al)].map hz)/\G=.agg #[.slice A 1 1]
 h:3<=b->∃A,J=.slice A 1 1/\Sl w (wF W w E) A 1 ([[(⟨mi,0,List.replicate L 0,[]⟩:al)]].map mS)
theorem Ij.ai{W:World}{gs:List Int}{gn m a:Nat}{w ac:World}{bz v6 bA v10 v11:Value}{E:List Nat}(h:Ij W gs gn m w a bz v6 bA v10 v11 E)(aE:Ext w ac):Ij W gs gn m ac a bz v6 bA v10 v11 E:=by
 have ai:∀k,k<w.heap.size->ac.heap[k]?=w.heap[k]?:=λk ai=>aE.block k ai λh=>h;have hs:=aE.size;refine⟨?_,h.o,λaW=>?_,λk ai=>⟨(h.e k ai).1,by have:=(h.e k ai).2;omega⟩⟩
 .rcases h.g with⟨ae,aD,aU⟩|⟨ae,aD⟩|⟨ae,aD,F,aU,a1⟩
  .exact .inl ⟨ae,aD,aU.ai λk ai=>by simp at ai⟩
  .exact .inr (.inl ⟨ae,aD.ai λb O=>ai b (h.e b O).2⟩)
  .exact .inr (.inr ⟨ae,aD,F,aU.ai λb O=>ai b (a1 b O).2,λk ai=>⟨(a1 k ai).1,by have:=(a1 k ai).2;omega⟩⟩)
 .obtain⟨A,ae,aD⟩:=h.t aW;exact⟨A,ae,(aD.ai λb O=>ai b O.2.1).mono λb O=>⟨O.1,by have:=O.2.1;omega,O.2.2⟩⟩
theorem HY.ai{W:World}{mi:Int}{L b:Nat}{w ac:World}{q s y G J:Value}{E a:List Nat}(h:HY W mi L w b q s y G J E)(hs:w.heap.size<=ac.heap.size)(ai:∀k,W.heap.size<=k->k<w.heap.size->k∉E->ac.heap[k]?=w.heap[k]?/\k∉a):HY W mi L ac b q s y G J a:=by
 have ci:∀b,wF W w E b->ac.heap[b]?=w.heap[b]?:=λb O=>(ai b O.1 O.2.1 O.2.2).1;have hm:∀b,wF W w E b->wF W ac a b:=λb O=>⟨O.1,by have:=O.2.1;omega,(ai b O.1 O.2.1 O.2.2).2⟩
 refine⟨λO=>?_,λO=>?_,λO=>?_⟩
 .obtain⟨A,ae,aD,aU⟩:=h.i O;exact⟨A,ae,(aD.ai ci).mono hm,aU⟩
 .obtain⟨A,ae,aD,aU⟩:=h.f O;exact⟨A,ae,(aD.ai ci).mono hm,aU⟩
 .obtain⟨A,ae,aD⟩:=h.h O;exact⟨A,ae,(aD.ai ci).mono hm⟩
theorem Fm{ops:Array Oper}{Q:Exit->Act->World->Prop}{W:World}{gs:List Int}{gn gc mn mc L ws:Nat}{GA MA:LP}{mi:Int}{X:List bF}{bs Z bu ay az N S aa ag aj al am ap:Value}{a0 a3 a6 a7 a8 a18 a19 a20 a21 a22:Array Edge}{p0 p3 p6 p7 p8 p18 p19 p20 p21 p22:String}
  (hG:Sl W (au W) GA gn (gs.map D.i)) (yM:gn<=100000) (hM:cK (EF hy) 3 W W.heap.size MA mn X) (hX:q9 X) (bo:L<=100000) (np:ws<=W.heap.size)
  (o0:ops[0]?=some ⟨some 3,.buildSlice 22 0 #[],22,p0,a0,none⟩)
  (o3:ops[3]?=some ⟨some 6,.call {callee:=.builtin .append,args:=#[.tmp 3,.tmp 5],argTypes:=#[22,22]},22,p3,a3,none⟩)
  (o6:ops[6]?=some ⟨some 9,.call {callee:=.value (.func 113),args:=#[.tmp 8],argTypes:=#[23]},22,p6,a6,none⟩)
  (o7:ops[7]?=some ⟨some 10,.call {callee:=.builtin .len,args:=#[.tmp 9],argTypes:=#[22]},3,p7,a7,none⟩)
  (o8:ops[8]?=some ⟨some 11,.makeSlice 27 (.tmp 10) (.tmp 10),27,p8,a8,none⟩)
  (Jz:ops[18]?=some ⟨some 21,.makeSlice 22 (.tmp 20) (.tmp 20),22,p18,a18,none⟩)
  (JA:ops[19]?=some ⟨some 22,.build 99 #[(0,.tmp 13),(2,.tmp 21)],99,p19,a19,none⟩)
  (JB:ops[20]?=some ⟨some 23,.buildSlice 47 1 #[(0,.tmp 22)],47,p20,a20,none⟩)
  (JC:ops[21]?=some ⟨some 24,.build 49 #[(0,.tmp 23)],49,p21,a21,none⟩)
  (JD:ops[22]?=some ⟨some 25,.buildSlice 28 1 #[(0,.tmp 24)],28,p22,a22,none⟩)
  (hP:∀bz v6 bA v10 v11 q s y G J E w,Ext W w->Ij W gs gn (own X).length w 4 bz v6 bA v10 v11 E->HY W mi L w 3 q s y G J E->cQ prog ops Q (Fr (λk=>¬k<ws)) [24] (.free 23 (.pick [24] λ_=>.stop)) ⟨#[bs,Z,bu,bz,ay,.slice GA gn gc,v6,az,.slice MA mn mc,bA,v10,v11,N,.int .i64 mi,S,aa,ag,aj,al,am,.int .i64 (L:Int),q,s,y,G,J,ap],[]⟩ w) :
  ∀(n a b:Nat),a<=4->b<=3->8<=n+a+b->∀bz v6 bA v10 v11 q s y G J E w,Ext W w->Ij W gs gn (own X).length w a bz v6 bA v10 v11 E->HY W mi L w b q s y G J E->
   cQ prog ops Q (Fr (λk=>¬k<ws)) [24] (gH n a b) ⟨#[bs,Z,bu,bz,ay,.slice GA gn gc,v6,az,.slice MA mn mc,bA,v10,v11,N,.int .i64 mi,S,aa,ag,aj,al,am,.int .i64 (L:Int),q,s,y,G,J,ap],[]⟩ w:=by
 intro n
 induction n with
 | zero=>intro a b aW O hn;omega
 | succ n ao=>
  intro a b aW O hn bz v6 bA v10 v11 q s y G J E w aE bp aN;unfold gH
  cases ah:(a == 4 && b == 3) with
  | true=>
   simp only[Ln,beq_iff_eq] at ah;obtain⟨rfl,rfl⟩:=ah
   exact hP _ _ _ _ _ _ _ _ _ _ _ _ aE bp aN
  | false=>
  have af:=aE.size;have z:∀o:Obj,Fr (λk=>¬k<ws) w (w.alloc o):=λo=>LL.alloc o;have U:∀o:Obj,(w.alloc o).heap.size=w.heap.size+1:=λo=>World.kY w o;have C:∀o:Obj,Ext W (w.alloc o):=λo=>aE.alloc o;have r:∀o:Obj,Ext w (w.alloc o):=λo=>LL.alloc o;have aH:∀o:Obj,HY W mi L (w.alloc o) b q s y G J E:=λo=>aN.ai (by rw[U];omega) λk _ ai hn=>⟨Below.heap_alloc w o k ai,hn⟩
  intro i ak;simp only[x6,Lk] at ak;rcases ak with ak|ak
  .have cd:a=0\/a=1\/a=2\/a=3\/a=4:=ab;rcases cd with rfl|rfl|rfl|rfl|rfl
   ·
    have i0:i=0:=by simpa using ak
    subst i0;obtain⟨m,aQ⟩:E=[]/\ij 3 1 gn (gs.map eJ) w 0 bz v6 []:=by
     rcases bp.g with⟨_,aD,aU⟩|⟨ae,_⟩|⟨ae,_⟩
     .exact⟨aD,aU⟩
     .omega
     .omega
    subst m;obtain⟨_,_,cS⟩:=aQ.begin rfl;refine⟨_,o0,λK hK=>?_⟩;rw[if_pos (by rfl)];refine EC (hK _ _ (λ_=>z _) ?_)
    try simp only[PU]
    refine ao 1 b ab O ab _ _ _ _ _ _ _ _ _ _ [w.heap.size] _ (C _) ⟨.inr (.inl ⟨rfl,cS⟩),λh=>ab,λh=>ab,λk ai=>?_⟩ (aN.ai (by rw[U];omega) λk _ ai hn=>⟨Below.heap_alloc w _ k ai,λh=>by have:=LF.1 h;omega⟩);rw[U];have:=LF.1 ai;omega
   ·
    have i0:i=3:=by simpa using ak
    subst i0;have aQ:ij 3 1 gn (gs.map eJ) w 1 bz v6 E:=by
     rcases bp.g with⟨ae,_⟩|⟨_,aU⟩|⟨ae,_⟩
     .omega
     .exact aU
     .omega
    refine⟨_,o3,λK hK=>?_⟩;rw[if_pos (by rfl)];refine ij.fill aQ de (.tmp 3) (.tmp 5) rfl rfl rfl (by have:=Src.ov (hG.on (Fr.ext aE)).ints (iA _) (qA _) ab;rwa [xW] at this) ab ab (λh=>by subst h;exact hG.none_) (λv ac Y cS H aS T=>?_);have cb:=H.size;have l:∀k∈E,W.heap.size<=k:=λk ai=>(bp.e k ai).1;have R:Ext W ac:=Fr.low (M:=λk=>k∈E) (Fr.trans (Fr.mono aE λ_ h=>h.elim) H) l;refine hK _ _ (λ_=>H.mono λk ai=>by have:=l k ai;omega) ?_
    try simp only[PU]
    refine ao 2 b ab O ab _ _ _ _ _ _ _ _ _ _ [] _ R ⟨.inr (.inr ⟨ab,rfl,Y,cS,λk ai=>?_⟩),λh=>ab,λh=>ab,λk ai=>by simp at ai⟩ (aN.ai cb λk _ ai hn=>⟨H.block k ai hn,by simp⟩);have ae:=T k ai;have:W.heap.size<=k:=by rcases ae.1 with aD|aD;exact l k aD;omega
    omega
   ·
    have i0:i=6:=by simpa using ak
    subst i0;refine⟨_,o6,λK hK=>?_⟩;rw[if_pos (by rfl)];go_simp;refine(mm MA mn mc X w (hM.cS (Fr.ext aE) (Fr.ext aE).size) hX).mono ?_;rintro e ac ⟨I,aA,rfl,hc,hs,aX⟩;have d:Ext w ac:=Fr.of aX;refine hK _ _ (λ_=>Fr.mono d λ_ h=>h.elim) ?_
    try simp only
    show cQ _ _ _ _ _ (.free 7 (gH n 3 b)) _ _
    refine lD (v:=?_) o7 (by rfl) (λV=>?_) ?_;rotate_left
    ·(go_simp<;>with_reducible rfl)
    try simp only[PU]
    have aB:=bp.ai d;have aK:2<=2/\E=[]/\∃F,ij 3 1 gn (gs.map eJ) ac 2 bz v6 F/\∀k∈F,W.heap.size<=k/\k<ac.heap.size:=by
     rcases aB.g with⟨ae,_⟩|⟨ae,_⟩|aU
     .omega
     .omega
     .exact aU
    exact ao 3 b ab O ab _ _ _ _ _ _ _ _ _ _ E _ (aE.trans d) ⟨.inr (.inr ⟨ab,aK.2⟩),λ_=>rfl,λh=>ab,aB.e⟩ (aN.ai d.size λk _ ai hn=>⟨d.block k ai λh=>h,hn⟩)
   ·
    have i0:i=8:=by simpa using ak
    subst i0;have c:=bp.o ab;subst c;have hm:=dJ hX;have d3:=λW=>run_mk (P:=prog) oP .i64 .i64 (own X).length ab ab W;have ax:=DT (e:=95) (f:=cG) (x:=⟨0,0⟩) (zc:=#[.int .i64 0,.int .i64 0]) (sz:=2) rfl rfl ab (own X).length ab (w:=w) (base:=w.heap.size) (Lb _);refine⟨_,o8,λK hK=>?_⟩;rw[if_pos (by rfl)];have bq:=ad ax;clear ax;go_simp;refine hK _ _ (λ_=>z _) ?_
    try simp only
    have aB:=bp.ai (r (.cells (madeCells #[.int .i64 0,.int .i64 0] ((own X).length*2)) 95));have aK:2<=3/\E=[]/\∃F,ij 3 1 gn (gs.map eJ) (w.alloc (.cells (madeCells #[.int .i64 0,.int .i64 0] ((own X).length*2)) 95)) 2 bz v6 F/\∀k∈F,W.heap.size<=k/\k<(w.alloc (.cells (madeCells #[.int .i64 0,.int .i64 0] ((own X).length*2)) 95)).heap.size:=by
     rcases aB.g with⟨ae,_⟩|⟨ae,_⟩|aU
     .omega
     .omega
     .exact aU
    refine ao 4 b ab O ab _ _ _ _ _ _ _ _ _ _ E _ (C _) ⟨.inr (.inr ⟨ab,aK.2⟩),λ_=>rfl,λ_=>⟨_,rfl,?_⟩,aB.e⟩ (aH _);exact Sl.qz bq.o (dK _) (by simp) λg _ ae aD=>⟨ab,aD,by simp⟩
   .simp at ak
  .have cd:b=0\/b=1\/b=2\/b=3:=ab;rcases cd with rfl|rfl|rfl|rfl
   ·
    have i0:i=18:=by simpa using ak
    subst i0;have d3:=λW=>run_mk (P:=prog) de .i64 .i64 L ab ab W;have ax:=DT (e:=3) (f:=b5) (x:=0) (zc:=#[.int .i64 0]) (sz:=1) rfl rfl ab L ab (w:=w) (base:=w.heap.size) (Lb _);rw[xW,Nat.mul_one] at ax;have bq:=ad ax;clear ax;refine⟨_,Jz,λK hK=>?_⟩;rw[if_pos (by rfl)];go_simp;refine hK _ _ (λ_=>z _) ?_
    try simp only
    show cQ _ _ _ _ _ (.free 19 (gH n a 1)) _ _
    refine lD (v:=?_) JA (by rfl) (λV=>?_) ?_;rotate_left
    ·(go_simp<;>with_reducible rfl)
    try simp only[PU]
    refine ao a 1 aW ab ab _ _ _ _ _ _ _ _ _ _ E _ (C _) (bp.ai (r _)) ⟨λ_=>⟨_,rfl,?_,rfl⟩,λh=>ab,λh=>ab⟩;exact Sl.qz bq.o (cF _) (by simp) λg _ ae aD=>⟨ab,aD,λh=>by have:=(bp.e g h).2;omega⟩
   ·
    have i0:i=20:=by simpa using ak
    subst i0;obtain⟨A,aq,hs,ar⟩:=aN.i ab;subst aq ar;refine⟨_,JB,λK hK=>?_⟩;rw[if_pos (by rfl)];go_simp;refine hK _ _ (λ_=>z _) ?_
    try simp only
    show cQ _ _ _ _ _ (.free 21 (gH n a 2)) _ _
    refine lD (v:=?_) JC (by rfl) (λV=>?_) ?_;rotate_left
    ·(go_simp<;>with_reducible rfl)
    try simp only[PU]
    have t:=aH (.cells #[.int .i64 mi,.int .i64 0,.slice A L L,.slice none 0 0] 99);obtain⟨A2,u,bv,_⟩:=t.i ab;injection u with u _ _;subst u;have aO:=an.new w 99 #[.int .i64 mi,.int .i64 0,.slice A L L,.slice none 0 0];refine ao a 2 aW ab ab _ _ _ _ _ _ _ _ _ _ E _ (C _) (bp.ai (r _)) ⟨λ_=>t.i ab,λ_=>⟨_,rfl,⟨rfl,λ_=>⟨w.heap.size,0,_,rfl,⟨af,by rw[U];omega,λh=>by have:=(bp.e _ h).2;omega⟩,D.bo.2 (g0.2 ⟨A,L,L,none,0,0,rfl,Lb _,Lb _,bv,Sl.bN _⟩),λj v bd=>?_⟩⟩,rfl⟩,λh=>ab⟩;rw[Lt,aO.cell];simpa using bd
   ·
    have i0:i=22:=by simpa using ak
    subst i0;obtain⟨A,av,hs,aw⟩:=aN.f ab;subst av aw;refine⟨_,JD,λK hK=>?_⟩;rw[if_pos (by rfl)];go_simp;refine hK _ _ (λ_=>z _) ?_
    try simp only
    have t:=aH (.cells #[.slice A 1 1] 49);obtain⟨A2,B,bv,_⟩:=t.f ab;injection B with B _ _;subst B;have aO:=an.new w 49 #[.slice A 1 1];refine ao a 3 aW ab ab _ _ _ _ _ _ _ _ _ _ E _ (C _) (bp.ai (r _)) ⟨λ_=>t.i ab,λ_=>t.f ab,λ_=>⟨_,rfl,rfl,λ_=>⟨w.heap.size,0,_,rfl,⟨af,by rw[U];omega,λh=>by have:=(bp.e _ h).2;omega⟩,D.bo.2 (fm.2 ⟨A,1,1,rfl,Lb _,bv⟩),λj v bd=>?_⟩⟩⟩;rw[Lt,aO.cell];simpa using bd
   .simp at ak
namespace Cz
theorem gA{p:Prop}(h:p:=by
 refine cB ?_;generalize hX:World.setCell _ _ _=Z;obtain⟨bH,bn,bC⟩:=cm (w:=w) [.slice cy gn c1,.slice A2 (own u.ae).length (own u.ae).length,.slice ck 1 1,.int .i64 0] (by rfl) r.2.2.2.2.1 r.2.2.2.2.2 ab hX;have bc:=ah bn bC;clear hX bn bC bE bg bh;obtain⟨bE,bg,bh⟩:=bH.two;clear bH;go_wp2_with(fail);refine LK (v:=.agg #[.slice cy gn c1,.slice A2 (own u.ae).length (own u.ae).length,.slice ck 1 1,.int .i64 0]) (by simp[results,Tryz.results72,go_sem,bE]) rfl ?_;have bB:=bc.2.size;have b8:u.globals.length=gn:=by have:=(aH.2.2).at_.g.1;rw[Lf] at this;exact this
 have bs:∀b,W.heap.size<=b->b<V.heap.size->Z.heap[b]?=V.heap[b]?:=λb ae aD=>bc.2.block b aD ab;have hm:∀b,W.heap.size<=b->b<V.heap.size->(False\/(w.heap.size<=b/\b<Z.heap.size)):=λb ae aD=>.inr ⟨ab,ab⟩;have al:=r.1.ai (ac:=Z) λb O=>bs b (r.2.1 b O).1 (r.2.1 b O).2;rw[Fj];have bj:ef u u.main [] []=⟨u.main,0,List.replicate L 0,[]⟩:=by unfold ef;rw[cv.2.1];simp
 rw[bj];exact⟨⟨cy,gn,c1,A2,(own u.ae).length,(own u.ae).length,ck,1,1⟩,rfl,⟨⟨al.sl (cF _) (by rw[Lf];exact b8) λb O=>hm b (r.2.1 b O).1 (r.2.1 b O).2,(r.2.2.1.ai λb O=>bs b O.1 O.2.1).mono λb O=>hm b O.1 O.2.1,(r.2.2.2.1.ai λb O=>bs b O.1 O.2.1).mono λb O=>hm b O.1 O.2.1⟩,al.cap,Lb _,Lb _⟩,bc.1⟩
 ):p:=h
theorem pE{p:Prop}(h:p:=by
 have aH:=aL aE cg (ch.on aE);have cE:=aE.size;have dm:=cg.lt;have aa:=(aE.cell cv.2.2.1 λh=>h).trans cv.2.2.2;have bf:pb<W.heap.size:=Lc cv.2.2.1 aE.size;obtain⟨a0,ap,aj⟩:=aN.two;obtain⟨ws,np⟩:∃ws,ws=W.heap.size:=⟨_,rfl⟩
 have cA:w.heap.size<ws:=ab;have N:pb<ws:=ab;have bI:=ad np;clear be aE aN cg np;refine uP (λk=>¬k<ws) [24] (.free 1 (.held 2 (.free 4 (.held 5 (.free 9 (.held 10 (.free 11 (.held 12 (.free 13 (.held 14 (.free 15 (.free 16 (.held 17 (gH 8 0 0)))))))))))))) ?_;refine tf ?_;refine oJ ?_;refine tf ?_;refine oJ ?_;refine tf ?_;refine oJ ?_;refine tf ?_;refine oJ ?_;refine tf ?_;refine oJ ?_
 iterate 2 refine tf ?_
 refine oJ ?_;have bV:Ext W W.drew:=(Fr.refl _ W).drew;refine Fm (W:=W) (gs:=u.globals) (gn:=gn) (gc:=gc) (mn:=mn) (mc:=mc) (L:=L) (ws:=ws) (GA:=GA) (MA:=MA) (mi:=u.main) (X:=u.ae) (p0:=?Kx) (a0:=?Kc) (p3:=?KG) (a3:=?Kk) (p6:=?KV) (a6:=?KO) (p7:=?KH) (a7:=?Kl) (p8:=?KI) (a8:=?Km) (p18:=?KB) (a18:=?Kf) (p19:=?KC) (a19:=?Kg) (p20:=?KD) (a20:=?Kh) (p21:=?KE) (a21:=?Ki) (p22:=?KF) (a22:=?Kj) ?hG yM ?hM ?hX cX ?np ?o0 ?o3 ?o6 ?o7 ?o8 ?Jz ?JA ?JB ?JC ?JD ?hP 8 0 0 ab ab ab undef undef undef undef undef undef undef undef undef undef [] W.drew bV ?sA ?sB
 case hG=>exact aH.2.2.at_.g
 case hM=>exact aH.2.2.at_.m.rr
 case hX=>exact cv.1.ok.EH
 case np=>have:=bI.o;omega
 case o0=>rfl
 case o3=>rfl
 case o6=>rfl
 case o7=>rfl
 case o8=>rfl
 case Jz=>rfl
 case JA=>rfl
 case JB=>rfl
 case JC=>rfl
 case JD=>rfl
 case sA=>exact⟨.inl ⟨rfl,rfl,.inl ⟨rfl,rfl,rfl,rfl⟩⟩,λh=>ab,λh=>ab,λk ai=>by simp at ai⟩
 case sB=>exact⟨λh=>ab,λh=>ab,λh=>ab⟩
 case hP=>
  intro bz v6 bA v10 v11 q s y G J E V bm bp aN;obtain⟨cy,c1,F,rfl,cD,I⟩:∃A c F,v6=.slice A gn c/\Own V 3 1 A gn c (u.globals.map eJ) F/\∀k∈F,W.heap.size<=k/\k<V.heap.size:=by
   rcases bp.g with⟨h,_⟩|⟨h,_⟩|⟨_,_,F,h,hF⟩
   .omega
   .omega
   .rcases h with⟨h,_⟩|⟨h,_⟩|⟨_,A,c,ae,aD⟩
    .omega
    .omega
    .exact⟨A,c,F,ae,aD,hF⟩
  obtain⟨A2,rfl,bl⟩:=bp.t ab;obtain⟨ck,rfl,bb⟩:=aN.h ab;have m:=aH.2.1.aj bm;have g:=aH.1.trans bm;have cW:=bm.size;have r:=ej cD I bl bb m g;obtain⟨bE,bg,bh⟩:=m.two;clear cD I bl bb m g bp aN bm a0 ap aj aa;refine tf ?_;exact hk
 ):p:=h
end Cz
open Cz in
theorem JN(u:av)(w:World)(p:UV)(hU:zo u)(hu:p.Ok w u) :
  Calls prog 72 #[.agg (p.val u)] w (Ik (λ_=>False) w (eK u)):=by
 obtain⟨GA,gn,gc,MA,mn,mc,PA,pn,pc⟩:=p;obtain⟨j,fW,cI,ak,cf⟩:=hU.ok.main;have i:=hU.ok.procs j (Le cI);have cd:=i.ints;have yM:gn<=100000:=by have ae:=hu.at_.g.1;have aD:=hU.ok.qv;rw[Lf] at ae;have aU:u.globals.length=gn:=ae;omega
 have bf:=hu.at_.p.1;rw[Lf] at bf;simp only at bf;have ci:=(List.getElem?_eq_some_iff.1 cI).1;obtain⟨pb,gN,cS,bQ,b1,bT,e,eM,cq,cu,cr,br,aa,cM,_,_⟩:=hu.at_.proc (k:=u.main.toNat) (by show u.main.toNat<pn;omega);simp only at e;subst e;rw[cI] at cq;injection cq with cq;subst cq;obtain⟨L,aO⟩:=Lg (a:=j.locals) ab;rw[aO] at aa;have cX:L<=100000:=ab;have co:u.main<(pn:Int):=ab;have aM:gg u u.main=L:=by unfold gg;rw[cI];simp[aO]
 have cv:=bG hU aM eM aa;have ch:=ad hu;clear hU cI ak cf i cd hu bf ci cu cr br aa cM aO aM;dsimp only[UV.val];go_enter func72,ntmps72;exact pD
end Go.Proofs.YtflecliffjbleaaGreat
