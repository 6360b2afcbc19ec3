/- Part 25 of the proof. No condition of its own. -/
import Derived.Test.YtnigabjngpnbiaaGreatQ24
namespace Go.Proofs.YtnigabjngpnbiaaGreat
open Go.RowKit Go.Proofs.Tryz
set_option maxRecDepth 1000000
set_option maxHeartbeats 25600000
set_option linter.unusedVariables false
variable{F F1 F2:List Nat}{xs:List Value}{m n:Nat}{e:TypeId}{v1 v2:Value}{J:World}
def hz(e:TypeId)(z n:Nat)(xs:List Value)(w:World)(st:Nat)(v1 v2:Value)(F:List Nat):Prop:=
 (st=0/\v1=undef/\v2=undef/\F=[])\/(st=1/\v2=undef/\∃A,v1=.slice A 0 0/\Own w e z A 0 0 [] F)\/(st=2/\∃A c,v2=.slice A n c/\Own w e z A n c xs F)
theorem hz.al{e:TypeId}{z n:Nat}{xs:List Value}{w J:World}{st:Nat}{v1 v2:Value}{F:List Nat}(h:hz e z n xs w st v1 v2 F)(aj:∀b∈F,J.heap[b]?=w.heap[b]?):hz e z n xs J st v1 v2 F:=by
 rcases h with h|⟨ac,ap,A,aD,bt⟩|⟨ac,A,c,ap,aD⟩
 .exact .inl h
 .exact .inr (.inl ⟨ac,ap,A,aD,bt.al aj⟩)
 .exact .inr (.inr ⟨ac,A,c,ap,aD.al aj⟩)
def vX(g t h:Nat)(b:Bool):List Nat:=
 (bif g == 0 then [0] else [])++((bif g == 1 then [3] else [])++((bif t == 0 then [4] else [])++((bif t == 1 && g == 2 then [7] else [])++((bif h == 0 then [8] else [])++((bif h == 1 && t == 2 then [11] else [])++(bif b then [] else [15]))))))
def FV(b:Bool):PT:=bif b then .pick [16] (λ_=>.stop) else .pick [15] (λ_=>.pick [16] (λ_=>.stop))
def iw:Nat->Nat->Nat->Nat->Bool->PT
 | 0,_,_,_,_=>.stop
 | f+1,g,t,h,b=>bif h == 2 then .free 14 (FV b) else .pick (vX g t h b) λi=>
   bif i == 0 then iw f 1 t h b else bif i == 3 then iw f 2 t h b else bif i == 4 then iw f g 1 h b else bif i == 7 then iw f g 2 h b else bif i == 8 then iw f g t 1 b else bif i == 11 then iw f g t 2 b else iw f g t h true
structure gx(W:World)(s:ah)(gn tn hn:Nat)(hx:List Value)(w:World)(g t h:Nat)(b:Bool)(aU bD v10 v11 aF aQ aO:Value)(F1 F2 bj bI:List Nat):Prop where
 ext:Ext W w
 g:hz 3 1 gn (s.globals.map cX) w g bD v10 F1
 t:hz 89 2 tn (s.table.flatMap bA) w t v11 aF F2
 h:hz 56 1 hn hx w h aQ aO bj
 o:(b=false/\aU=undef/\bI=[])\/(b=true/\∃N,aU=.pointer (some ⟨N,0,none⟩)/\bI=[N]/\au w N 31 #[.slice none 0 0,.slice none 0 0,.slice none 0 0,.int .i64 0])
 nd:(F1++(F2++(bj++bI))).Nodup
 lo:∀k∈F1++(F2++(bj++bI)),W.heap.size<=k/\k<w.heap.size
theorem oG(h:(F1++F2).Nodup)(hl:∀k∈F1++F2,k<m):(F1++(m::F2)).Nodup:=
 (List.perm_middle (a:=m) (l₁:=F1) (l₂:=F2)).nodup_iff.2 (List.nodup_cons.2 ⟨λh=>by have:=hl m h;omega,h⟩)
theorem rz{A B C:List Nat}(h:(A++(B++C)).Nodup)(hl:∀k∈A++(B++C),k<m)(aK:F.Nodup)(hn:∀k∈F,k∈B\/m<=k):(A++(F++C)).Nodup:=by
 have ac:=List.nodup_append.1 h;have ap:=List.nodup_append.1 ac.2.1;refine List.nodup_append.2 ⟨ac.1,List.nodup_append.2 ⟨aK,ap.2.1,λx hx y aa c=>?_⟩,λx hx y aa c=>?_⟩
 .subst c;rcases hn x hx with aD|aD
  .exact ap.2.2 x aD x aa rfl
  .have:=hl x (by simp[aa]);omega
 .subst c;rcases JR.1 aa with aa|aa
  .rcases hn x aa with aD|aD
   .exact ac.2.2 x hx x (by simp[aD]) rfl
   .have:=hl x (by simp[hx]);omega
  .exact ac.2.2 x hx x (by simp[aa]) rfl
section
variable {a:Act} {w:World} {K:Act->World->Prop} {Q:Exit->Act->World->Prop} {dst:Option Nat} {ty:TypeId} {p:String} {bs:Array Edge}
theorem DR(h:K (a.put dst (.slice (some ⟨w.heap.size,0,none⟩) 0 0)) (w.alloc (.cells #[] 3))):Oper.wp prog ⟨dst,.buildSlice 22 0 #[],ty,p,bs,none⟩ a w K Q:=by
 go_simp;exact h
theorem G0(h:K (a.put dst (.slice (some ⟨w.heap.size,0,none⟩) 0 0)) (w.alloc (.cells #[] 89))):Oper.wp prog ⟨dst,.buildSlice 28 0 #[],ty,p,bs,none⟩ a w K Q:=by
 go_simp;exact h
theorem G1(h:K (a.put dst (.slice (some ⟨w.heap.size,0,none⟩) 0 0)) (w.alloc (.cells #[] 56))):Oper.wp prog ⟨dst,.buildSlice 29 0 #[],ty,p,bs,none⟩ a w K Q:=by
 go_simp;exact h
theorem GZ(h:K (a.put dst (.pointer (some ⟨w.heap.size,0,none⟩))) (w.alloc (.cells #[.slice none 0 0,.slice none 0 0,.slice none 0 0,.int .i64 0] 31))):Oper.wp prog ⟨dst,.alloc 31,ty,p,bs,none⟩ a w K Q:=by
 go_simp;exact h
end
theorem hz.begin{z:Nat}{w:World}(h:hz e z n xs w 0 v1 v2 F)(hw:w.alloc (.cells #[] e)=J):F=[]/\v2=undef/\hz e z n xs J 1 (.slice (some ⟨w.heap.size,0,none⟩) 0 0) v2 [w.heap.size]:=by
 rcases h with⟨_,_,ap,aD⟩|⟨h,_⟩|⟨h,_⟩
 .subst hw;exact⟨aD,ap,.inr (.inl ⟨rfl,ap,_,rfl,⟨World.ownsRow_made w #[] 0 (J4 _) (J4 _) (by simp),rfl⟩⟩)⟩
 .cases h
 .cases h
theorem hz.fill{P:Program}{t:TypeId}{z:Value}{size bytes:Nat}{w:World}(h:hz e size n xs w 1 v1 v2 F){o:Oper}{a:Act}{K:Act->World->Prop}{Q:Exit->Act->World->Prop}(bu:cA P t e z size bytes)(s x:Operand)
  (bb:o.op=.call {callee:=.builtin .append,args:=#[s,x],argTypes:=#[t,t]}) (hs:a.eval s=v1) {A:Kj} {c:Nat} (hx:a.eval x=.slice A n c) (aZ:Src w size A n xs) (O:n*bytes<=140737488355328) (G:n<=140737488355328) (d:A=none->n=0)
  (hK:∀v J S,hz e size n xs J 2 v1 v S->Fr (λk=>k∈F) w J->S.Nodup->(∀k∈S,(k∈F\/w.heap.size<=k)/\k<J.heap.size)->K (a.put o.dst v) J):o.wp P a w K Q:=by
 rcases h with⟨h,_⟩|⟨_,_,B,bD,E⟩|⟨h,_⟩
 .cases h
 .rw[bD] at hs;refine ka _ bu s x bb 0 _ 0 [] hs E.row A n c xs hx aZ (by rw[J0];exact O) ad (J4 _) d λH J bE cB aI=>?_;simp only[J0,J8] at bE;obtain⟨a1,aW,rfl,hc,_⟩:=cj bE;refine hK _ J (bd a1 n aW) (.inr (.inr ⟨rfl,a1,aW,rfl,bE,rfl⟩)) (Kf.grown cB λg aS=>.inl (by rw[E.eq];simp[aS])) (ew _ _ _) λb O=>?_;have aN:(Value.slice a1 n aW).ownBlock=some b:=by simpa using O
  refine⟨?_,(bE.lt b aN).2⟩;rcases aI with aI|aI
  .rw[aI] at aN;exact .inl (by rw[E.eq];simp[aN])
  .rw[aI] at aN;injection aN with aN;right;omega
 .cases h
section
variable {ops:Array Oper} {Q:Exit->Act->World->Prop} {W:World} {s:ah} {gn tn hn gc tc hc:Nat} {GA TA HA:Kj} {hx:List Value} {ws:Nat} {aa:Value->Value->Value->Value->Value->Value->Value->Act}
 {p0 p3 p4 p7 p8 p11 p15:String} {a0 a3 a4 a7 a8 a11 a15:Array Edge} {t15:TypeId}
theorem gx.c6{bj bI:List Nat}{k:Nat}:k∈F1++(F2++(bj++bI))↔k∈F1\/k∈F2\/k∈bj\/k∈bI:=by simp only[JR]
theorem World.j8(w:World)(o:Obj):(w.alloc o).heap.size=w.heap.size+1:=by first|(simp;done)|(cases o<;>simp;done)|(unfold World.alloc;simp;done)|rfl
theorem gx.ep{w:World}{M:List Nat}(aA:Fr (λk=>k∈M) w J)(aq:∀k∈F,k<w.heap.size)(hd:∀k∈F,k∉M):∀k∈F,J.heap[k]?=w.heap[k]?:=λk aj=>aA.block k (aq k aj) (hd k aj)
theorem D9(hG:Sl W (ao W) GA gn (s.globals.map D.i))(hT:Sl W (ao W) TA tn (s.table.map kE))(hH:Src W 1 HA hn hx)(Ij:HA=none->hn=0)(rU:gn<=100000)(rV:tn<=100000)(pJ:hn<=100000)(l4:ws<=W.heap.size)
  (o0:ops[0]?=some ⟨some 7,.buildSlice 22 0 #[],22,p0,a0,none⟩)
  (o3:ops[3]?=some ⟨some 10,.call {callee:=.builtin .append,args:=#[.tmp 7,.tmp 9],argTypes:=#[22,22]},22,p3,a3,none⟩)
  (o4:ops[4]?=some ⟨some 11,.buildSlice 28 0 #[],28,p4,a4,none⟩)
  (o7:ops[7]?=some ⟨some 14,.call {callee:=.builtin .append,args:=#[.tmp 11,.tmp 13],argTypes:=#[28,28]},28,p7,a7,none⟩)
  (o8:ops[8]?=some ⟨some 15,.buildSlice 29 0 #[],29,p8,a8,none⟩)
  (Im:ops[11]?=some ⟨some 18,.call {callee:=.builtin .append,args:=#[.tmp 15,.tmp 17],argTypes:=#[29,29]},29,p11,a11,none⟩)
  (Io:ops[15]?=some ⟨some 5,.alloc 31,t15,p15,a15,none⟩)
  (q5:∀a b c d e f g x,(aa a b c d e f g).put (some 5) x=aa x b c d e f g) (q7:∀a b c d e f g x,(aa a b c d e f g).put (some 7) x=aa a x c d e f g) (DT:∀a b c d e f g x,(aa a b c d e f g).put (some 10) x=aa a b x d e f g)
  (HL:∀a b c d e f g x,(aa a b c d e f g).put (some 11) x=aa a b c x e f g) (Iw:∀a b c d e f g x,(aa a b c d e f g).put (some 14) x=aa a b c d x f g) (Ix:∀a b c d e f g x,(aa a b c d e f g).put (some 15) x=aa a b c d e x g) (Iy:∀a b c d e f g x,(aa a b c d e f g).put (some 18) x=aa a b c d e f x)
  (e7:∀a b c d e f g,(aa a b c d e f g).eval (.tmp 7)=b) (e9:∀a b c d e f g,(aa a b c d e f g).eval (.tmp 9)=.slice GA gn gc) (H9:∀a b c d e f g,(aa a b c d e f g).eval (.tmp 11)=d) (Ia:∀a b c d e f g,(aa a b c d e f g).eval (.tmp 13)=.slice TA tn tc)
  (Ib:∀a b c d e f g,(aa a b c d e f g).eval (.tmp 15)=f) (Ic:∀a b c d e f g,(aa a b c d e f g).eval (.tmp 17)=.slice HA hn hc)
  (jP:∀b aU bD v10 v11 aF aQ aO F1 F2 bj bI w,gx W s gn tn hn hx w 2 2 2 b aU bD v10 v11 aF aQ aO F1 F2 bj bI->cW prog ops Q (Fr (λk=>¬k<ws)) [16] (.free 14 (FV b)) (aa aU bD v10 v11 aF aQ aO) w) :
  ∀(n g t h:Nat) (b:Bool),g<=2->t<=2->h<=2->(t=2->g=2)->(h=2->t=2)->7<n+g+t+h+b.toNat->∀aU bD v10 v11 aF aQ aO F1 F2 bj bI w,gx W s gn tn hn hx w g t h b aU bD v10 v11 aF aQ aO F1 F2 bj bI->
   cW prog ops Q (Fr (λk=>¬k<ws)) [16] (iw n g t h b) (aa aU bD v10 v11 aF aQ aO) w:=by
 intro n
 induction n with
 | zero=>intro g t h b aS ht an _ _ hn;cases b<;>simp at hn<;>omega
 | succ n ab=>
  intro g t h b aS ht an cC E aA aU bD v10 v11 aF aQ aO F1 F2 bj bI w hS;unfold iw;by_cases ap:h=2
  .have cS:=E ap;have bb:=cC cS;subst ap cS bb;exact jP _ _ _ _ _ _ _ _ _ _ _ _ _ hS
  have bv:(h == 2)=false:=by simpa using ap
  rw[bv];have bc:=hS.lo;have T:=hS.ext.size;have aq:∀k∈F1++(F2++(bj++bI)),k<w.heap.size:=λk aj=>(bc k aj).2;have G:∀o:Obj,Fr (λk=>¬k<ws) w (w.alloc o):=λo=>Kf.alloc o;have m:∀(o:Obj) (k:Nat),k<w.heap.size->(w.alloc o).heap[k]?=w.heap[k]?:=λo k aj=>Below.heap_alloc w o k aj;have bH:∀o:Obj,(w.alloc o).heap.size=w.heap.size+1:=λo=>World.j8 w o;intro i I;simp only[vX,JR] at I;rcases I with I|I|I|I|I|I|I
  ·
   cases q:(g == 0) with
   | false=>rw[q] at I;exact absurd I (by simp)
   | true=>
   rw[q] at I;have co:g=0:=by simpa using q
   have i0:i=0:=by simpa using I
   subst co i0;obtain⟨z,_,aZ⟩:=hS.g.begin rfl;subst z;refine⟨_,o0,λK hK=>?_⟩;rw[if_pos (by rfl)];refine DR (hK _ _ (λ_=>G _) ?_);rw[q7];refine ab 1 t h b ad ht an ad E ad _ _ _ _ _ _ _ [w.heap.size] F2 bj bI _ ⟨hS.ext.alloc _,aZ,hS.t.al λk aj=>m _ k (aq k (gx.c6.2 (by simp[aj]))),hS.h.al λk aj=>m _ k (aq k (gx.c6.2 (by simp[aj]))),?_,?_,?_⟩
   .rcases hS.o with ac|⟨ac,N,aD,bt,cl⟩
    .exact .inl ac
    .exact .inr ⟨ac,N,aD,bt,cl.alloc _⟩
   .exact oG (F1:=[]) hS.nd aq
   .intro k aj;rw[bH];simp only[JR,JY,List.not_mem_nil,or_false] at aj;rcases aj with aj|aj
    .omega
    .have:=bc k (by simpa using aj);omega
  ·
   cases q:(g == 1) with
   | false=>rw[q] at I;exact absurd I (by simp)
   | true=>
   rw[q] at I;have bX:g=1:=by simpa using q
   subst bX;have i0:i=3:=by simpa using I
   subst i0;refine⟨_,o3,λK hK=>?_⟩;rw[if_pos (by rfl)];refine hz.fill hS.g eK (.tmp 7) (.tmp 9) rfl (e7 _ _ _ _ _ _ _) (e9 _ _ _ _ _ _ _) (by have:=Src.kL (hG.on (Fr.ext hS.ext)).ints (iP _) (lP _) ad;rwa [sf] at this) ad ad (λh=>by subst h;exact hG.none_) (λv J S aZ bO aR r=>?_);have Y:=bO.size;have l:∀k∈F1,W.heap.size<=k:=λk aj=>(bc k (gx.c6.2 (by simp[aj]))).1;have u:Ext W J:=Fr.low (M:=λk=>k∈F1) (Fr.trans (Fr.mono hS.ext λ_ h=>h.elim) bO) l;refine hK _ _ (λ_=>bO.mono λk aj=>by have:=l k aj;omega) ?_;rw[DT];have j:∀k,k∈F1++(F2++(bj++bI))->k∉F1->J.heap[k]?=w.heap[k]?:=λk aj hn=>bO.block k (aq k aj) hn;have n1:=List.nodup_append.1 hS.nd;have n2:=List.nodup_append.1 n1.2.1;have n3:=List.nodup_append.1 n2.2.1;refine ab 2 t h b ad ht an ad E ad _ _ _ _ _ _ _ S F2 bj bI _ ⟨u,aZ,hS.t.al (λk aj=>j k (gx.c6.2 (by simp[aj])) (λac=>n1.2.2 k ac k (by simp[aj]) rfl)),hS.h.al (λk aj=>j k (gx.c6.2 (by simp[aj])) (λac=>n1.2.2 k ac k (by simp[aj]) rfl)),?_,?_,?_⟩
   .rcases hS.o with ac|⟨ac,N,aD,bt,cl⟩
    .exact .inl ac
    .have y:∀k∈bI,k∉F1:=λk aj=>λac=>n1.2.2 k ac k (by simp[aj]) rfl;exact .inr ⟨ac,N,aD,bt,show _=_ from (j N (gx.c6.2 (by simp[bt])) (y N (by simp[bt]))).trans cl⟩
   .exact rz (A:=[]) hS.nd aq aR λk aj=>(r k aj).1
   .intro k aj;rcases gx.c6.1 aj with aj|aj|aj|aj
    .have:=r k aj;have:W.heap.size<=k:=by rcases this.1 with ac|ac;exact l k ac;omega
     omega
    .have:=bc k (gx.c6.2 (by simp[aj]));omega
    .have:=bc k (gx.c6.2 (by simp[aj]));omega
    .have:=bc k (gx.c6.2 (by simp[aj]));omega
  ·
   cases q:(t == 0) with
   | false=>rw[q] at I;exact absurd I (by simp)
   | true=>
   rw[q] at I;have co:t=0:=by simpa using q
   have i0:i=4:=by simpa using I
   subst co i0;obtain⟨z,_,aZ⟩:=hS.t.begin rfl;subst z;refine⟨_,o4,λK hK=>?_⟩;rw[if_pos (by rfl)];refine G0 (hK _ _ (λ_=>G _) ?_);rw[HL];refine ab g 1 h b aS ad an ad (λh=>ad) ad _ _ _ _ _ _ _ F1 [w.heap.size] bj bI _ ⟨hS.ext.alloc _,hS.g.al λk aj=>m _ k (aq k (gx.c6.2 (by simp[aj]))),aZ,hS.h.al λk aj=>m _ k (aq k (gx.c6.2 (by simp[aj]))),?_,?_,?_⟩
   .rcases hS.o with ac|⟨ac,N,aD,bt,cl⟩
    .exact .inl ac
    .exact .inr ⟨ac,N,aD,bt,cl.alloc _⟩
   .exact oG (F1:=F1) hS.nd aq
   .intro k aj;rw[bH];rcases gx.c6.1 aj with aj|aj|aj|aj
    .have:=bc k (gx.c6.2 (by simp[aj]));omega
    .have:=J9.1 aj;omega
    .have:=bc k (gx.c6.2 (by simp[aj]));omega
    .have:=bc k (gx.c6.2 (by simp[aj]));omega
  ·
   cases q:(t == 1 && g == 2) with
   | false=>rw[q] at I;exact absurd I (by simp)
   | true=>
   rw[q] at I;simp only[JU,beq_iff_eq] at q;obtain⟨t1,g2⟩:=q;subst t1 g2;have i0:i=7:=by simpa using I
   subst i0;refine⟨_,o7,λK hK=>?_⟩;rw[if_pos (by rfl)];refine hz.fill hS.t kf (.tmp 11) (.tmp 13) rfl (H9 _ _ _ _ _ _ _) (Ia _ _ _ _ _ _ _) (Src.kL (hT.on (Fr.ext hS.ext)).holds (dY _) (ku _) ad) ad ad (λh=>by subst h;exact hT.none_) (λv J S aZ bO aR r=>?_);have Y:=bO.size;have l:∀k∈F2,W.heap.size<=k:=λk aj=>(bc k (gx.c6.2 (by simp[aj]))).1;have u:Ext W J:=Fr.low (M:=λk=>k∈F2) (Fr.trans (Fr.mono hS.ext λ_ h=>h.elim) bO) l;refine hK _ _ (λ_=>bO.mono λk aj=>by have:=l k aj;omega) ?_;rw[Iw];have j:∀k,k∈F1++(F2++(bj++bI))->k∉F2->J.heap[k]?=w.heap[k]?:=λk aj hn=>bO.block k (aq k aj) hn;have n1:=List.nodup_append.1 hS.nd;have n2:=List.nodup_append.1 n1.2.1;have n3:=List.nodup_append.1 n2.2.1;refine ab 2 2 h b aS ad an ad ad ad _ _ _ _ _ _ _ F1 S bj bI _ ⟨u,hS.g.al (λk aj=>j k (gx.c6.2 (by simp[aj])) (λac=>n1.2.2 k aj k (by simp[ac]) rfl)),aZ,hS.h.al (λk aj=>j k (gx.c6.2 (by simp[aj])) (λac=>n2.2.2 k ac k (by simp[aj]) rfl)),?_,?_,?_⟩
   .rcases hS.o with ac|⟨ac,N,aD,bt,cl⟩
    .exact .inl ac
    .have y:∀k∈bI,k∉F2:=λk aj=>λac=>n2.2.2 k ac k (by simp[aj]) rfl;exact .inr ⟨ac,N,aD,bt,show _=_ from (j N (gx.c6.2 (by simp[bt])) (y N (by simp[bt]))).trans cl⟩
   .exact rz (A:=F1) hS.nd aq aR λk aj=>(r k aj).1
   .intro k aj;rcases gx.c6.1 aj with aj|aj|aj|aj
    .have:=bc k (gx.c6.2 (by simp[aj]));omega
    .have:=r k aj;have:W.heap.size<=k:=by rcases this.1 with ac|ac;exact l k ac;omega
     omega
    .have:=bc k (gx.c6.2 (by simp[aj]));omega
    .have:=bc k (gx.c6.2 (by simp[aj]));omega
  ·
   cases q:(h == 0) with
   | false=>rw[q] at I;exact absurd I (by simp)
   | true=>
   rw[q] at I;have co:h=0:=by simpa using q
   have i0:i=8:=by simpa using I
   subst co i0;obtain⟨z,_,aZ⟩:=hS.h.begin rfl;subst z;refine⟨_,o8,λK hK=>?_⟩;rw[if_pos (by rfl)];refine G1 (hK _ _ (λ_=>G _) ?_);rw[Ix];refine ab g t 1 b aS ht ad cC ad ad _ _ _ _ _ _ _ F1 F2 [w.heap.size] bI _ ⟨hS.ext.alloc _,hS.g.al λk aj=>m _ k (aq k (gx.c6.2 (by simp[aj]))),hS.t.al λk aj=>m _ k (aq k (gx.c6.2 (by simp[aj]))),aZ,?_,?_,?_⟩
   .rcases hS.o with ac|⟨ac,N,aD,bt,cl⟩
    .exact .inl ac
    .exact .inr ⟨ac,N,aD,bt,cl.alloc _⟩
   .have:=oG (F1:=F1++F2) (F2:=bI) (by simpa using hS.nd) (by simpa using aq);simpa using this
   .intro k aj;rw[bH];rcases gx.c6.1 aj with aj|aj|aj|aj
    .have:=bc k (gx.c6.2 (by simp[aj]));omega
    .have:=bc k (gx.c6.2 (by simp[aj]));omega
    .have:=J9.1 aj;omega
    .have:=bc k (gx.c6.2 (by simp[aj]));omega
  ·
   cases q:(h == 1 && t == 2) with
   | false=>rw[q] at I;exact absurd I (by simp)
   | true=>
   rw[q] at I;simp only[JU,beq_iff_eq] at q;obtain⟨ac,t2⟩:=q;have g2:=cC t2;subst ac t2 g2;have i0:i=11:=by simpa using I
   subst i0;refine⟨_,Im,λK hK=>?_⟩;rw[if_pos (by rfl)];refine hz.fill hS.h q9 (.tmp 15) (.tmp 17) rfl (Ib _ _ _ _ _ _ _) (Ic _ _ _ _ _ _ _) (hH.on (Fr.ext hS.ext)) ad ad Ij (λv J S aZ bO aR r=>?_);have Y:=bO.size;have l:∀k∈bj,W.heap.size<=k:=λk aj=>(bc k (gx.c6.2 (by simp[aj]))).1;have u:Ext W J:=Fr.low (M:=λk=>k∈bj) (Fr.trans (Fr.mono hS.ext λ_ h=>h.elim) bO) l;refine hK _ _ (λ_=>bO.mono λk aj=>by have:=l k aj;omega) ?_;rw[Iy];have j:∀k,k∈F1++(F2++(bj++bI))->k∉bj->J.heap[k]?=w.heap[k]?:=λk aj hn=>bO.block k (aq k aj) hn;have n1:=List.nodup_append.1 hS.nd;have n2:=List.nodup_append.1 n1.2.1;have n3:=List.nodup_append.1 n2.2.1;refine ab 2 2 2 b aS ht ad ad ad ad _ _ _ _ _ _ _ F1 F2 S bI _ ⟨u,hS.g.al (λk aj=>j k (gx.c6.2 (by simp[aj])) (λac=>n1.2.2 k aj k (by simp[ac]) rfl)),hS.t.al (λk aj=>j k (gx.c6.2 (by simp[aj])) (λac=>n2.2.2 k aj k (by simp[ac]) rfl)),aZ,?_,?_,?_⟩
   .rcases hS.o with ac|⟨ac,N,aD,bt,cl⟩
    .exact .inl ac
    .have y:∀k∈bI,k∉bj:=λk aj=>λac=>n3.2.2 k ac k aj rfl;exact .inr ⟨ac,N,aD,bt,show _=_ from (j N (gx.c6.2 (by simp[bt])) (y N (by simp[bt]))).trans cl⟩
   .have:=rz (A:=F1++F2) (B:=bj) (C:=bI) (by simpa using hS.nd) (by simpa using aq) aR (λk aj=>(r k aj).1);simpa using this
   .intro k aj;rcases gx.c6.1 aj with aj|aj|aj|aj
    .have:=bc k (gx.c6.2 (by simp[aj]));omega
    .have:=bc k (gx.c6.2 (by simp[aj]));omega
    .have:=r k aj;have:W.heap.size<=k:=by rcases this.1 with ac|ac;exact l k ac;omega
     omega
    .have:=bc k (gx.c6.2 (by simp[aj]));omega
  ·
   cases b with
   | true=>simp at I
   | false=>
   have i0:i=15:=by simpa using I
   subst i0;refine⟨_,Io,λK hK=>?_⟩;rw[if_pos (by rfl)];refine GZ (hK _ _ (λ_=>G _) ?_);rw[q5];have bt:bI=[]:=by
    rcases hS.o with⟨_,_,h⟩|⟨h,_⟩
    .exact h
    .cases h
   subst bt;refine ab g t h true aS ht an cC E (by simp at aA ⊢;omega) _ _ _ _ _ _ _ F1 F2 bj [w.heap.size] _ ⟨hS.ext.alloc _,hS.g.al λk aj=>m _ k (aq k (gx.c6.2 (by simp[aj]))),hS.t.al λk aj=>m _ k (aq k (gx.c6.2 (by simp[aj]))),hS.h.al λk aj=>m _ k (aq k (gx.c6.2 (by simp[aj]))),.inr ⟨rfl,_,rfl,rfl,Kg⟩,?_,?_⟩
   .have:=oG (F1:=F1++(F2++bj)) (F2:=[]) (by simpa using hS.nd) (by simpa using aq);simpa using this
   .intro k aj;rw[bH];rcases gx.c6.1 aj with aj|aj|aj|aj
    .have:=bc k (gx.c6.2 (by simp[aj]));omega
    .have:=bc k (gx.c6.2 (by simp[aj]));omega
    .have:=bc k (gx.c6.2 (by simp[aj]));omega
    .have:=J9.1 aj;omega
end
structure RO(P:Nat->Prop)(B:Nat)(w:World)(s:ah)(k:Nat)(fs:List ai)(f:ai)(N:Nat)(q:SV)(O lb lc:Nat)(hx co:List Value)(IA:Kj)(ic:Nat)(bo:Kj)(y:Nat)(F1 F2 bf:List Nat):Prop where
 th:s.threads[k]?=some (fs++[f])
 gl:q.gn=s.globals.length
 tl:q.tn=s.table.length
 hl:q.hn=s.threads.length
 g:Own w 3 1 q.GA q.gn q.gc (s.globals.map cX) F1
 t:Own w 89 2 q.TA q.tn q.tc (s.table.flatMap bA) F2
 h:Own w 56 1 q.HA q.hn q.hc hx [O]
 lJ:q.HA=some ⟨O,0,none⟩
 pA:∀j cR,j≠k->s.threads[j]?=some cR->∃u,hx[j]?=some u/\(jg cR).rep w P [u]
 FY:hx[k]?=some (.slice (some ⟨lb,0,none⟩) (fs.length+1) lc)
 l:Own w 59 4 (some ⟨lb,0,none⟩) (fs.length+1) lc (co++[.int .i64 f.proc,.int .i64 f.pc,.slice IA f.ints.length ic,.slice bo f.aq.length y]) [lb]
 fr:D.aR w P (fs.map dP) co
 lk:Sl w P bo f.aq.length (f.aq.map D.i)
 F0:f.aq.length<=y
 i:Own w 3 1 IA f.ints.length ic (f.ints.map cX) bf
 o:au w N 31 (q.val s)
 nd:(N::O::lb::(F1++(F2++bf))).Nodup
 lo:∀b∈N::O::lb::(F1++(F2++bf)),B<=b/\b<w.heap.size
 pb:∀b,P b->b<B
def He(P:Nat->Prop)(w:World)(s:ah)(k:Nat)(fs:List ai)(f:ai)(e:Ending)(J:World):Prop:=∃q O lb lc hx co IA ic bo y F1 F2 bf,e=.returned (.agg (q.val s))/\Ext w J/\
 ∀V N,Ext J V->au V N 31 (q.val s)->J.heap.size<=N->RO P w.heap.size V s k fs f N q O lb lc hx co IA ic bo y F1 F2 bf
namespace B5
theorem gO{p:Prop}(h:p:=by
 refine cY ?_;generalize hX:World.setCell _ _ _=X;obtain⟨a2,bM⟩:=ej 0 [.slice bz gn c1,.slice bg tn c2,.slice bU hn c3,.int .i64 s.fault] cZ hX;have a6:au X N 31 #[.slice bz gn c1,.slice bg tn c2,.slice bU hn c3,.int .i64 s.fault]:=a2;have aH:∀k∈F1++(F2++bj),k≠N:=by
  have:=dZ (A:=F1++(F2++bj)) (B:=[]) (x:=N) (by simpa using aR);simpa using this
 have bK:∀k,k∈F1++(F2++bj)->k∈F1++(F2++(bj++[N])):=λk aj=>by
  simp only[JR] at aj ⊢;rcases aj with aj|aj|aj
  .exact .inl aj
  .exact .inr (.inl aj)
  .exact .inr (.inr (.inl aj))
 have aG:∀k∈F1++(F2++bj),X.heap[k]?=V.heap[k]?:=λk aj=>bM.block k (bc k (bK k aj)).2 (aH k aj);have bf:Ext W X:=Fr.low (M:=λb=>b=N) (Fr.trans (Fr.mono a9 λ_ h=>h.elim) bM) λb O=>by rw[O];exact bC.1
 have aJ:=jE (r.al λk aj=>aG k (by simp[aj])) (a1.al λk aj=>aG k (by simp[aj])) (aY.al λk aj=>aG k (by simp[aj])) a6 aR (λk aj=>(⟨(bc k aj).1,by have:=(bc k aj).2;have:=bM.size;omega⟩:W.heap.size<=k/\k<X.heap.size)) bf;obtain⟨a0,al,af⟩:=(ab.2.1.aj bf).two;have aT:Ext w X:=ab.1.trans bf;have n:∀b,P b->X.heap[b]?=w.heap[b]?:=λb O=>aT.block b (bF.2.1 b O) λh=>h;obtain⟨dz,d8,c7,FA,m,fc,cz,bB,az,dh,bX,cf⟩:=bF.1.at_.h.kN (k:=t.toNat) (by show t.toNat<hn;omega);simp only at cz;subst cz;have dB:c7=fs++[f]:=by have:=bF.2.2.2.1;rw[az] at this;injection this
 subst dB;obtain rfl:m=fs.length+1:=by have:=cf.1;simpa using this.symm
 have dJ:=(aT.cell (j:=d8+t.toNat) (bF.2.1 _ bB) λh=>h).trans dh;have du:=cf.al n;have cF:dz<X.heap.size:=by have:=bF.2.1 _ bB;have:=aT.size;omega
 have cG:∀d∈(fs++[f]).map dP,d.sz=4:=λd hd=>by obtain⟨x,_,rfl⟩:=J6.1 hd;rfl
 obtain⟨dQ,cw,ay⟩:=Sl.src (z:=4) du cG;rw[JP] at cw;obtain⟨b0,cS,rfl,bu,bi⟩:=D.k9 cw;obtain⟨IA,ii,ic,bo,dN,y,rfl,bJ,aS,dy,cj⟩:=fy.1 (D.bt.1 bi);have ds:b0.length=fs.length*4:=by rw[D.h5 _ _ bu,D.hq (z:=4) (λd hd=>by obtain⟨x,_,rfl⟩:=J6.1 hd;rfl),JM]
 obtain rfl:ii=f.ints.length:=by have:=dy.1;simpa using this.symm
 obtain rfl:dN=f.aq.length:=by have:=cj.1;simpa using this.symm
 have dF:=bN.2.2.2;have aX:FA=none->fs.length+1=0:=λh=>by subst h;exact du.none_
 have hIn:IA=none->f.ints.length=0:=λh=>by subst h;exact dy.none_
 have cM:cB (EF dr) 1 X X.heap.size IA f.ints.length f.ints:=(dy.mono (c5:=ao X) λb O=>by have:=bF.2.1 b O;have:=aT.size;show b<X.heap.size;omega).ints;have bw:=dq bu cj aS cM aT ds;have b1:=av ay aX hIn;obtain⟨aE,cI,bZ,dE,cA,cD,cE⟩:=aJ.2.2.1.block ad;subst cI;have c4:=b9 bZ cA cD cE;clear e0 bl bm hX a2 bM a6 aH bK aG r a1 aY cZ aR bc a9 az bB dh cf n cG cw bi bu cj dy bJ aS cM ay aX hIn aT bf bZ cA cD cE du bX;go_upto_region 3 with(at_builtin;refine fu _ vS (by rfl) (.tmp 22) (.tmp 28) (by rfl) (by rfl) _ _ _ _ (by rfl) b1.1 ad ad b1.2.1 ?_;intro dG cy aL aA bY;have H1:=ak aA bY;clear aA bY);have ct:=H1.2.size;obtain⟨lb,dj,di,cg,cH,dl,cJ⟩:=hj H1.1 ad;subst dj;have d2:aL.cell? ⟨lb,fs.length*4+2,none⟩=some (.slice IA f.ints.length ic):=cH _ _ (by rw[<-bw.2.2.2.2.2,List.getElem?_append_right ad,Nat.add_sub_cancel_left];rfl);have cu:Src aL 1 IA f.ints.length (f.ints.map cX):=by
  have:=Src.kL (bw.2.2.2.1.eQ H1.2 H1.2.size) (iP _) (lP _) ad
  rwa [sf] at this
 have bW:=av cu di cJ;have cL:=dl;clear cu cJ cH;go_upto_region 4 with(at_builtin;refine fu _ eK (by rfl) (.tmp 34) (.tmp 41) (by rfl) (by rfl) _ _ _ _ (by rfl) bW.1 ad ad b1.2.2 ?_;intro df cN aV ax bv;have bO:=ak ax bv;obtain⟨f0,cQ,cV⟩:aV.cell? ⟨lb,fs.length*4+2,none⟩=some (.slice IA f.ints.length ic)/\(∀j,aV.frozen? ⟨lb,j,none⟩=false)/\lb<aV.heap.size:=⟨((Fr.of (M:=λ_=>False) bv).cell cg λh=>h).trans d2,λj=>((Fr.of (M:=λ_=>False) bv).frozen cg λh=>h).trans (cL j),JJ cg bv.size⟩;clear ax bv);generalize cm:World.setCell _ _ _=Y;obtain⟨dC,cp,-,-,-,-,cr⟩:=hj (bT H1.1 bO.2) ad;obtain rfl:lb=dC:=by simpa using cp
 have dc:Y.ownsRow X.heap.size 59 4 (.slice (some ⟨lb,0,none⟩) (fs.length+1) cy) (fs.length+1) ((b0++[Value.int .i64 f.proc,.int .i64 f.pc,.slice IA f.ints.length ic,.slice bo f.aq.length y]).set (fs.length*4+2) (.slice df f.ints.length cN)):=by
  rw[<-cm];exact cr _ _ ad
 have L:Fr (λb=>b=lb) aV Y:=cm▸(Fr.refl (λb=>b=lb) _).setCell (.inl rfl) _;have bH:Ext X Y:=Fr.low (M:=λb=>b=lb) (Fr.trans (Fr.trans (Fr.of H1.2) (Fr.of (Below.mono bO.2 (JI _)))) L) λb O=>by rw[O];exact bW.2.1
 have cc:∀b∈bd df f.ints.length cN,aL.heap.size<=b/\b<aV.heap.size:=λb O=>bO.1.lt b (by simpa using O);have da:Own Y 3 1 df f.ints.length cN (f.ints.map cX) (bd df f.ints.length cN):=Own.al (w:=aV) ⟨gC bO.1 (J4 _),rfl⟩ λb O=>L.block b (cc b O).2 (aC (cc b O));have dk:∀b∈bd df f.ints.length cN,aL.heap.size<=b/\b<Y.heap.size:=λb O=>⟨(cc b O).1,JJ (cc b O).2 L.size⟩
 have cT:=aJ.2.2.1.aj bH;have b5:=aJ.2.2.2.1.aj bH;obtain⟨e0,bl,bm⟩:=b5.two;have aK:hx.length=hn:=by
  rw[D.h5 _ _ bF.2.2.2.2.1,D.hq (z:=1) (λd hd=>by obtain⟨x,_,rfl⟩:=J6.1 hd;rfl),JM,Nat.mul_one];exact bN.2.2.1
 obtain⟨bR,am,-,dx,cd,bQ,ce⟩:=cT.block ad;obtain rfl:aE=bR:=by simpa using am
 obtain⟨dO,dp⟩:∃u,hx[t.toNat]?=some u:=⟨_,List.getElem?_eq_getElem ad⟩
 have co:=cd t.toNat dO dp;have dM:lb<Y.heap.size:=JJ cV L.size;have dI:=bH.size;have dL:=bW.2.1;have aW:=vG dc bH da dk cT b5 aK ce;clear dp cm cp cr dc L bH cc da dk cT b5 am cd ce f0 cQ d2 cL aK;go_upto_region 5 with(fail);generalize aI:World.setCell _ _ _=Z;have aR:=aJ.2.2.2.2.1;have aw:=aJ.2.2.2.2.2.1;rw[c4.1] at aR aw;have aH:∀b∈F1++F2++[N],b≠aE:=dZ (A:=F1++F2) (B:=[N]) (x:=aE) (by simpa using aR);have c8:Own Z 56 1 (some ⟨aE,0,none⟩) hn c3 (hx.set t.toNat (.slice (some ⟨lb,0,none⟩) (fs.length+1) cy)) bj:=aI▸aW.2.2.2.2.2.2.2 t.toNat _ ad;have bS:Fr (λb=>b=aE) Y Z:=aI▸(Fr.refl (λb=>b=aE) _).setCell (.inl rfl) _;have c0:∀b,b<X.heap.size->b≠aE->Z.heap[b]?=X.heap[b]?:=λb O hn=>(bS.block b (JJ O aW.2.1.size) hn).trans (aW.2.1.block b O λh=>h);have bb:=aJ.1.al λb O=>c0 b (aw b (by simp[O])).2 (aH b (by simp[O]));have de:=aJ.2.1.al λb O=>c0 b (aw b (by simp[O])).2 (aH b (by simp[O]));have ag:(b0++[Value.int .i64 f.proc,.int .i64 f.pc,.slice IA f.ints.length ic,.slice bo f.aq.length y]).set (fs.length*4+2) (.slice df f.ints.length cN)=b0++[Value.int .i64 f.proc,.int .i64 f.pc,.slice df f.ints.length cN,.slice bo f.aq.length y]:=by
  have:=bw.2.2.2.2.2;rw[List.set_append_right _ _ ad,this,Nat.add_sub_cancel_left];rfl
 have dd:Own Z 59 4 (some ⟨lb,0,none⟩) (fs.length+1) cy (b0++[Value.int .i64 f.proc,.int .i64 f.pc,.slice df f.ints.length cN,.slice bo f.aq.length y]) [lb]:=by
  rw[<-ag];exact Own.al (w:=Y) ⟨gC aW.1 (J4 _),rfl⟩ λb O=>bS.block b (aC (J9.1 O)) (aC (J9.1 O))
 have dk:=aW.2.2.2.1;have db:=aW.2.2.1.al λb O=>bS.block b (dk b O).2 (aC (dk b O));have bq:=aW.2.2.2.2.2.1.on bS (aH N (by simp));have b6:Ext W Z:=Fr.low (M:=λb=>b=aE) (Fr.trans (Fr.mono (aJ.2.2.2.2.2.2.trans aW.2.1) λ_ h=>h.elim) bS) λb O=>by rw[O];exact(aw aE (by simp)).1
 have cU:=ab.2.2.1.aj b6;have a5:Ext w Z:=ab.1.trans b6;have aP:∀b∈aE::lb::(F1++(F2++bd df f.ints.length cN)),W.heap.size<=b/\b<Z.heap.size:=by
  have ac:=aJ.2.2.2.2.2.2.size;have ap:=bS.size;intro b O;rcases JY.1 O with O|O
  .have:=aw aE (by simp);omega
  rcases JY.1 O with O|O
  .omega
  rcases JR.1 O with O|O
  .have:=aw b (by simp[O]);omega
  rcases JR.1 O with O|O
  .have:=aw b (by simp[O]);omega
  .have:=dk b O;omega
 have bV:(aE::lb::(F1++(F2++bd df f.ints.length cN))).Nodup:=by
  have dD:(F1++F2).Nodup:=by have:=aR;rw[<-List.append_assoc] at this;exact(List.nodup_append.1 this).1
  have cO:(F1++F2++bd df f.ints.length cN).Nodup:=List.nodup_append.2 ⟨dD,ew _ _ _,λa bE b O h=>by
   have aD:=dk b O;have bt:a<X.heap.size:=(aw a (by rcases JR.1 bE with h|h<;>simp[h])).2;omega⟩
  rw[JW] at cO;refine List.nodup_cons.2 ⟨λh=>?_,List.nodup_cons.2 ⟨λh=>?_,cO⟩⟩
  .rcases JY.1 h with O|O
   .omega
   rcases JR.1 O with O|O
   .exact aH aE (by simp[O]) rfl
   rcases JR.1 O with O|O
   .exact aH aE (by simp[O]) rfl
   .have:=dk aE O;omega
  .rcases JR.1 h with O|O
   .have:=aw lb (by simp[O]);omega
   rcases JR.1 O with O|O
   .have:=aw lb (by simp[O]);omega
   .have:=dk lb O;omega
 have aK:=aW.2.2.2.2.2.2.1;obtain⟨e0,bl,bm⟩:=bq.two;obtain⟨bh,an,aM⟩:=cU.two;have bn:=Hi bb de c8 dd db cU a5 aP bV aK;clear aI aR aw aH c8 bS c0 bb de ag dd dk db bq b6 cU a5 aP bV aK co bQ;go_wp2_with(fail);generalize hU:World.setCell _ _ _=U;obtain⟨cK,ci,cb⟩:=bk (w:=w) [.slice bz gn c1,.slice bg tn c2,.slice (some ⟨aE,0,none⟩) hn c3,.int .i64 s.fault] (by rfl) bn.2.2.2.2.2.1 bn.2.2.2.2.2.2.1 ad hU;have cx:=ak ci cb;clear hU ci cb e0 bl bm bh an aM;obtain⟨bh,an,aM⟩:=cK.two;refine Ke (v:=.agg #[.slice bz gn c1,.slice bg tn c2,.slice (some ⟨aE,0,none⟩) hn c3,.int .i64 s.fault]) (by simp[results,Tryz.results72,go_sem,bh]) rfl ?_;obtain⟨hG,hT,hH,bP,hI,-,-,aP,bV,aK⟩:=bn.o;refine⟨⟨bz,gn,c1,bg,tn,c2,some ⟨aE,0,none⟩,hn,c3⟩,aE,lb,cy,hx.set t.toNat (.slice (some ⟨lb,0,none⟩) (fs.length+1) cy),b0,df,cN,bo,y,F1,F2,bd df f.ints.length cN,rfl,cx.1,λV dH a9 b8 dK=>?_⟩;have cb:=cx.2;have c6:=cb.size;have dn:=a9.size;have dw:∀b,W.heap.size<=b->b<Z.heap.size->V.heap[b]?=Z.heap[b]?:=λb ac ap=>(a9.block b ad λh=>h).trans (cb.block b ap ad);have dg:∀b,P b->V.heap[b]?=w.heap[b]?:=λb O=>(cx.1.trans a9).block b (bF.2.1 b O) λh=>h;have ch:∀b,P b->V.heap[b]?=X.heap[b]?:=λb O=>(dg b O).trans (bw.2.2.2.2.1.block b (bF.2.1 b O) λh=>h).symm;have br:∀b∈aE::lb::(F1++(F2++bd df f.ints.length cN)),V.heap[b]?=Z.heap[b]?:=λb O=>dw b (aP b O).1 (aP b O).2;have bZ:=c4.1;have dt:t.toNat<hx.length:=ad
 refine {th:=bF.2.2.2.1,gl:=bN.1.symm,tl:=bN.2.1.symm,hl:=bN.2.2.1.symm,g:=hG.al λb O=>br b (by simp[O]),t:=hT.al λb O=>br b (by simp[O]),h:=?_,lJ:=rfl,pA:=λj cR be cv=>?_,FY:=by simp[dt],l:=bP.al λb O=>br b (by simp[J9.1 O]),fr:=D.bY ch _ _ bw.1,lk:=bw.2.1.al ch,F0:=bw.2.2.1,i:=hI.al λb O=>br b (by simp[O]),o:=b8,nd:=?_,lo:=λb O=>?_,pb:=bF.2.1}
 .rw[<-bZ];exact hH.al λb O=>br b (by rw[bZ] at O;simp[J9.1 O])
 .obtain⟨cs,aZ,b4,ck⟩:=D.nB (z:=1) bF.2.2.2.2.1 (λd hd=>by obtain⟨x,_,rfl⟩:=J6.1 hd;rfl) (k:=j) (d:=jg cR) (by rw[List.getElem?_map,cv];rfl);obtain⟨u,rfl⟩:=List.length_eq_one_iff.1 b4;have h0:=ck 0 u rfl;simp only[Nat.mul_one,JS] at h0;exact⟨u,by rw[List.getElem?_set_ne (λh=>be h.symm)];exact h0,D.aD dg _ _ aZ⟩
 .exact List.nodup_cons.2 ⟨λh=>by have:=aP dH h;omega,bV⟩
 .rcases JY.1 O with O|O
  .subst O;exact⟨ad,b8.lt⟩
  .have:=aP b O;omega
 ):p:=h
end B5
open B5 in
theorem EL(P:Nat->Prop)(s:ah)(t:Int)(fs:List ai)(f:ai)(q:SV)(w:World)(h:q.Is w P s)(S:∀b,P b->b<w.heap.size)(T:Small s)(c9:0<=t)(bx:s.threads[t.toNat]?=some (fs++[f])) :
  Calls prog 72 #[.agg (q.val s),.int .i64 t] w (He P w s t.toNat fs f):=by
 obtain⟨GA,gn,gc,TA,tn,tc,HA,hn,hc⟩:=q;have b2:=h.ok S;have bC:s.globals.length=gn:=by have ac:=h.at_.g.1;rw[JM] at ac;exact ac
 have cn:s.table.length=tn:=by have ac:=h.at_.t.1;rw[JM] at ac;exact ac
 have bG:s.threads.length=hn:=by have ac:=h.at_.h.1;rw[JM] at ac;exact ac
 have rU:gn<=100000:=by have:=T.g;omega
 have rV:tn<=100000:=by have:=T.t;omega
 have pJ:hn<=100000:=by have:=T.h;omega
 have dA:t<(hn:Int):=by have:=(List.getElem?_eq_some_iff.1 bx).1;omega
 have b3:=(T.f _ (JL bx)).1;rw[JK] at b3;simp only[JV,J1] at b3;have cC:=(T.f _ (JL bx)).2 f (by simp);obtain⟨hx,bs,bL⟩:=Sl.src (z:=1) h.at_.h (λd hd=>by obtain⟨x,_,rfl⟩:=J6.1 hd;rfl);have bF:=dq h S b2 bx bs bL;have bN:=b9 bC cn bG cC;clear h S b2 bx bs bL bC cn bG T cC;dsimp only[SV.val];go_enter func72,ntmps72;go_upto_region 1 with(fail);generalize ba:World.alloc _ _=W;have ar:=jN ba;have bp:=fQ ba;have cq:=fR ba;have ab:=b9 ar bp cq (bF.2.2.1.on ar);have cP:=ar.size;have dv:=cq.lt;obtain⟨a0,al,af⟩:=bp.two;obtain⟨ws,l4⟩:∃ws,ws=W.heap.size:=⟨_,rfl⟩
 have b7:w.heap.size<ws:=ad;have aN:=ae l4;clear ba ar bp cq l4;refine uU (λb=>¬b<ws) [16] (.free 1 (.held 2 (.free 5 (.held 6 (.free 9 (.held 10 (.free 12 (.held 13 (iw 8 0 0 0 false))))))))) ?_;refine tf ?_;refine pO ?_;refine tf ?_;refine pO ?_;refine tf ?_;refine pO ?_;refine tf ?_;refine pO ?_;refine D9 (W:=W) (s:=s) (gn:=gn) (tn:=tn) (hn:=hn) (gc:=gc) (tc:=tc) (hc:=hc) (GA:=GA) (TA:=TA) (HA:=HA) (hx:=hx) (ws:=ws) (p0:=?Jj) (a0:=?I3) (p3:=?Jr) (a3:=?Jb) (p4:=?JD) (a4:=?Jz) (p7:=?Js) (a7:=?Jc) (p8:=?Jt) (a8:=?Jd) (p11:=?Jk) (a11:=?I4) (p15:=?Jl) (a15:=?I5) (t15:=?Jw) (aa:=(λaU bD v10 v11 aF aQ aO=>⟨#[.agg #[.slice GA gn gc,.slice TA tn tc,.slice HA hn hc,.int .i64 s.fault],.int .i64 t,.pointer (some ⟨w.heap.size,0,none⟩),undef,.pointer (some ⟨w.heap.size+1,0,none⟩),aU,undef,bD,.pointer (some ⟨w.heap.size,0,none⟩),.slice GA gn gc,v10,v11,.pointer (some ⟨w.heap.size,1,none⟩),.slice TA tn tc,aF,aQ,.pointer (some ⟨w.heap.size,2,none⟩),.slice HA hn hc,aO,.pointer (some ⟨w.heap.size,3,none⟩),.int .i64 s.fault,undef,undef,undef,undef,undef,undef,undef,undef,undef,undef,undef,undef,undef,undef,undef,undef,undef,undef,undef,undef,undef,undef,undef,undef,undef,undef,undef,undef,undef,undef,undef],[]⟩)) ?hG ?hT ?hH ?Ij ?rU ?rV ?pJ ?l4 ?o0 ?o3 ?o4 ?o7 ?o8 ?Im ?Io ?q5 ?q7 ?DT ?HL ?Iw ?Ix ?Iy ?e7 ?e9 ?H9 ?Ia ?Ib ?Ic ?jP 8 0 0 0 false ?n1 ?n2 ?n3 ?n4 ?n5 ?n6 undef undef undef undef undef undef undef [] [] [] [] W.drew ?start
 case hG=>exact ab.2.2.2.at_.g
 case hT=>exact ab.2.2.2.at_.t
 case hH=>exact bF.2.2.2.2.2.on (Fr.ext ab.1)
 case Ij=>exact λh=>by subst h;exact ab.2.2.2.at_.h.none_
 case rU=>exact rU
 case rV=>exact rV
 case pJ=>exact pJ
 case l4=>have:=aN.o;omega
 case o0=>rfl
 case o3=>rfl
 case o4=>rfl
 case o7=>rfl
 case o8=>rfl
 case Im=>rfl
 case Io=>rfl
 case q5=>intro _ _ _ _ _ _ _ _;rfl
 case q7=>intro _ _ _ _ _ _ _ _;rfl
 case DT=>intro _ _ _ _ _ _ _ _;rfl
 case HL=>intro _ _ _ _ _ _ _ _;rfl
 case Iw=>intro _ _ _ _ _ _ _ _;rfl
 case Ix=>intro _ _ _ _ _ _ _ _;rfl
 case Iy=>intro _ _ _ _ _ _ _ _;rfl
 case e7=>intro _ _ _ _ _ _ _;rfl
 case e9=>intro _ _ _ _ _ _ _;rfl
 case H9=>intro _ _ _ _ _ _ _;rfl
 case Ia=>intro _ _ _ _ _ _ _;rfl
 case Ib=>intro _ _ _ _ _ _ _;rfl
 case Ic=>intro _ _ _ _ _ _ _;rfl
 case n1=>omega
 case n2=>omega
 case n3=>omega
 case n4=>omega
 case n5=>omega
 case n6=>simp
 case start=>exact⟨Kf.drew,.inl ⟨rfl,rfl,rfl,rfl⟩,.inl ⟨rfl,rfl,rfl,rfl⟩,.inl ⟨rfl,rfl,rfl,rfl⟩,.inl ⟨rfl,rfl,rfl⟩,by simp,λk aj=>by simp at aj⟩
 case jP=>
  intro b aU bD v10 v11 aF aQ aO F1 F2 bj bI V hC;obtain⟨bz,c1,rfl,r⟩:∃A c,v10=.slice A gn c/\Own V 3 1 A gn c (s.globals.map cX) F1:=by
   rcases hC.g with⟨h,_⟩|⟨h,_⟩|⟨_,h⟩
   .cases h
   .cases h
   .exact h
  obtain⟨bg,c2,rfl,a1⟩:∃A c,aF=.slice A tn c/\Own V 89 2 A tn c (s.table.flatMap bA) F2:=by
   rcases hC.t with⟨h,_⟩|⟨h,_⟩|⟨_,h⟩
   .cases h
   .cases h
   .exact h
  obtain⟨bU,c3,rfl,aY⟩:∃A c,aO=.slice A hn c/\Own V 56 1 A hn c hx bj:=by
   rcases hC.h with⟨h,_⟩|⟨h,_⟩|⟨_,h⟩
   .cases h
   .cases h
   .exact h
  refine tf ?_;refine vp (P:=?P1) (ops:=?JC) (Q:=?JF) (R:=?JG) (tails:=?JH) (rest:=.pick [16] (λ_=>.stop)) (aa:=?JB) (C:=λ(N:Nat) V=>Ext W V/\Own V 3 1 bz gn c1 (s.globals.map cX) F1/\Own V 89 2 bg tn c2 (s.table.flatMap bA) F2/\Own V 56 1 bU hn c3 hx bj/\au V N 31 #[.slice none 0 0,.slice none 0 0,.slice none 0 0,.int .i64 0]/\(F1++(F2++(bj++[N]))).Nodup/\∀k∈F1++(F2++(bj++[N])),W.heap.size<=k/\k<V.heap.size) (λkey=>?main) ?key
  case main=>
   rcases hC.o with⟨rfl,rfl,bt⟩|⟨rfl,N,rfl,bt,cl⟩
   .subst bt;show cW _ _ _ _ _ (.pick [15] λ_=>.pick [16] λ_=>.stop) _ _
    refine aB ?_;refine gX ?_;have aq:∀k∈F1++(F2++(bj++[])),k<V.heap.size:=λk aj=>(hC.lo k aj).2;have hD:Ext W (V.alloc (.cells #[.slice none 0 0,.slice none 0 0,.slice none 0 0,.int .i64 0] 31))/\Own (V.alloc (.cells #[.slice none 0 0,.slice none 0 0,.slice none 0 0,.int .i64 0] 31)) 3 1 bz gn c1 (s.globals.map cX) F1/\Own (V.alloc (.cells #[.slice none 0 0,.slice none 0 0,.slice none 0 0,.int .i64 0] 31)) 89 2 bg tn c2 (s.table.flatMap bA) F2/\Own (V.alloc (.cells #[.slice none 0 0,.slice none 0 0,.slice none 0 0,.int .i64 0] 31)) 56 1 bU hn c3 hx bj/\au (V.alloc (.cells #[.slice none 0 0,.slice none 0 0,.slice none 0 0,.int .i64 0] 31)) V.heap.size 31 #[.slice none 0 0,.slice none 0 0,.slice none 0 0,.int .i64 0]/\(F1++(F2++(bj++[V.heap.size]))).Nodup/\∀k∈F1++(F2++(bj++[V.heap.size])),W.heap.size<=k/\k<(V.alloc (.cells #[.slice none 0 0,.slice none 0 0,.slice none 0 0,.int .i64 0] 31)).heap.size:=by
     refine⟨hC.ext.alloc _,r.aj (Kf.alloc _),a1.aj (Kf.alloc _),aY.aj (Kf.alloc _),Kg,?_,λk aj=>?_⟩
     .have:=oG (F1:=F1++(F2++bj)) (F2:=[]) (by simpa using hC.nd) (by simpa using aq);simpa using this
     .rw[World.j8];have dn:=hC.ext.size;rcases gx.c6.1 aj with aj|aj|aj|aj
      .have:=hC.lo k (gx.c6.2 (.inl aj));omega
      .have:=hC.lo k (gx.c6.2 (.inr (.inl aj)));omega
      .have:=hC.lo k (gx.c6.2 (.inr (.inr (.inl aj))));omega
      .have:=J9.1 aj;omega
    generalize V.alloc (.cells #[.slice none 0 0,.slice none 0 0,.slice none 0 0,.int .i64 0] 31)=ea at hD ⊢;generalize V.heap.size=N at hD ⊢;exact key N ea hD
   .subst bt;show cW _ _ _ _ _ (.pick [16] λ_=>.stop) _ _
    exact key N V ⟨hC.ext,r,a1,aY,cl,hC.nd,hC.lo⟩
  clear hC r a1 aY V b;intro N V ⟨a9,r,a1,aY,cZ,aR,bc⟩;obtain⟨e0,bl,bm⟩:=cZ.two;have bC:=bc N (by simp);clear a0 al af;exact gN
end Go.Proofs.YtnigabjngpnbiaaGreat
