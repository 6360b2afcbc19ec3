/- Part 29 of the proof. No condition of its own. -/
import Derived.Test.YtnigabjngpnbiabGreatF28
namespace Go.Proofs.YtnigabjngpnbiabGreat
open Go.RowKit Go.Proofs.Tryz
set_option maxRecDepth 1000000
set_option maxHeartbeats 25600000
set_option linter.unusedVariables false
variable{F:List Nat}{xs:List Value}{m n:Nat}{e:TypeId}{v1 v2:Value}
def iK(e:TypeId)(z n:Nat)(xs:List Value)(w:World)(st:Nat)(v1 v2:Value)(F:List Nat):Prop:=
 (st=0/\v1=undef/\v2=undef/\F=[])\/(st=1/\v2=undef/\∃A,v1=.slice A 0 0/\Own w e z A 0 0 [] F)\/(st=2/\∃A c,v2=.slice A n c/\Own w e z A n c xs F)
theorem iK.ak{e:TypeId}{z n:Nat}{xs:List Value}{w ab:World}{st:Nat}{v1 v2:Value}{F:List Nat}(h:iK e z n xs w st v1 v2 F)(aj:∀b∈F,ab.heap[b]?=w.heap[b]?):iK e z n xs ab st v1 v2 F:=by
 rcases h with h|⟨ac,az,A,aV,aU⟩|⟨ac,A,c,az,aV⟩
 .exact .inl h
 .exact .inr (.inl ⟨ac,az,A,aV,aU.ak aj⟩)
 .exact .inr (.inr ⟨ac,A,c,az,aV.ak aj⟩)
def yH(g t h:Nat)(b:Bool):List Nat:=
 (bif g == 0 then [0] else [])++((bif g == 1 then [3] else [])++((bif t == 0 then [4] else [])++((bif t == 1 && g == 2 then [7] else [])++((bif h == 0 then [8] else [])++((bif h == 1 && t == 2 then [11] else [])++(bif b then [] else [15]))))))
def Iy(b:Bool):PT:=bif b then .pick [16] (λ_=>.stop) else .pick [15] (λ_=>.pick [16] (λ_=>.stop))
def jB:Nat->Nat->Nat->Nat->Bool->PT
 | 0,_,_,_,_=>.stop
 | f+1,g,t,h,b=>bif h == 2 then .free 14 (Iy b) else .pick (yH g t h b) λi=>
   bif i == 0 then jB f 1 t h b else bif i == 3 then jB f 2 t h b else bif i == 4 then jB f g 1 h b else bif i == 7 then jB f g 2 h b else bif i == 8 then jB f g t 1 b else bif i == 11 then jB f g t 2 b else jB f g t h true
structure hv(W:World)(s:ai)(gn tn hn:Nat)(hx:List Value)(w:World)(g t h:Nat)(b:Bool)(bu cG v10 v11 aD aJ aG:Value)(F1 F2 bJ cb:List Nat):Prop where
 ext:Ext W w
 g:iK 3 1 gn (s.globals.map dv) w g cG v10 F1
 t:iK 138 2 tn (s.table.flatMap ch) w t v11 aD F2
 h:iK 95 1 hn hx w h aJ aG bJ
 o:(b=false/\bu=undef/\cb=[])\/(b=true/\∃N,bu=.pointer (some ⟨N,0,none⟩)/\cb=[N]/\an w N 30 #[.slice none 0 0,.slice none 0 0,.slice none 0 0,.int .i64 0])
 nd:(F1++(F2++(bJ++cb))).Nodup
 lo:∀k∈F1++(F2++(bJ++cb)),W.heap.size<=k/\k<w.heap.size
theorem qL{F1 F2:List Nat}(h:(F1++F2).Nodup)(hl:∀k∈F1++F2,k<m):(F1++(m::F2)).Nodup:=
 (List.perm_middle (a:=m) (l₁:=F1) (l₂:=F2)).nodup_iff.2 (List.nodup_cons.2 ⟨λh=>by have:=hl m h;omega,h⟩)
theorem tQ{A B q C:List Nat}(h:(A++(B++C)).Nodup)(hl:∀k∈A++(B++C),k<m)(aT:q.Nodup)(hn:∀k∈q,k∈B\/m<=k):(A++(q++C)).Nodup:=by
 have ac:=List.nodup_append.1 h;have az:=List.nodup_append.1 ac.2.1;refine List.nodup_append.2 ⟨ac.1,List.nodup_append.2 ⟨aT,az.2.1,λx hx y bb c=>?_⟩,λx hx y bb c=>?_⟩
 .subst c;rcases hn x hx with aV|aV
  .exact az.2.2 x aV x bb rfl
  .have:=hl x (by simp[bb]);omega
 .subst c;rcases Nc.1 bb with bb|bb
  .rcases hn x bb with aV|aV
   .exact ac.2.2 x hx x (by simp[aV]) rfl
   .have:=hl x (by simp[hx]);omega
  .exact ac.2.2 x hx x (by simp[bb]) rfl
section
variable {a:Act} {w:World} {K:Act->World->Prop} {Q:Exit->Act->World->Prop} {dst:Option Nat} {ty:TypeId} {p:String} {ag:Array Edge}
theorem Gm(h:K (a.put dst (.slice (some ⟨w,0,none⟩) 0 0)) (w.alloc (.cells #[] 3))):Oper.wp prog ⟨dst,.buildSlice 22 0 #[],ty,p,ag,none⟩ a w K Q:=by
 go_simp;exact h
theorem JU(h:K (a.put dst (.slice (some ⟨w,0,none⟩) 0 0)) (w.alloc (.cells #[] 138))):Oper.wp prog ⟨dst,.buildSlice 27 0 #[],ty,p,ag,none⟩ a w K Q:=by
 go_simp;exact h
theorem JV(h:K (a.put dst (.slice (some ⟨w,0,none⟩) 0 0)) (w.alloc (.cells #[] 95))):Oper.wp prog ⟨dst,.buildSlice 28 0 #[],ty,p,ag,none⟩ a w K Q:=by
 go_simp;exact h
theorem JT(h:K (a.put dst (.pointer (some ⟨w,0,none⟩))) (w.alloc (.cells #[(),(),(),(0:Int)] 30))):Oper.wp prog ⟨dst,.alloc 30,ty,p,ag,none⟩ a w K Q:=by
 go_simp;exact h
end
theorem iK.begin{z:Nat}{w ab:World}(h:iK e z n xs w 0 v1 v2 F)(hw:w.alloc (.cells #[] e)=ab):F=[]/\v2=undef/\iK e z n xs ab 1 (.slice (some ⟨w,0,none⟩) 0 0) v2 [w.heap.size]:=by
 rcases h with⟨_,_,az,aV⟩|⟨h,_⟩|⟨h,_⟩
 .subst hw;exact⟨aV,az,.inr (.inl ⟨rfl,az,_,rfl,⟨World.ownsRow_made w #[] 0 (Nq _) (Nq _) (by simp),rfl⟩⟩)⟩
 .cases h
 .cases h
theorem iK.fill{P:Program}{t:TypeId}{z:Value}{size bytes:Nat}{w:World}(h:iK e size n xs w 1 v1 v2 F){o:Oper}{a:Act}{K:Act->World->Prop}{Q:Exit->Act->World->Prop}(bF:cq P t e z size bytes)(s x:Operand)
  (bD:o.op=.call {callee:=.builtin .append,args:=#[s,x],argTypes:=#[t,t]}) (hs:a.eval s=v1) {A:NH} {c:Nat} (hx:a.eval x=.slice A n c) (ba:Src w size A n xs) (O:n*bytes<=140737488355328) (y:n<=140737488355328) (d:A=none->n=0)
  (hK:∀v ab Y,iK e size n xs ab 2 v1 v Y->Fr (λk=>k∈F) w ab->Y.Nodup->(∀k∈Y,(k∈F\/w.heap.size<=k)/\k<ab.heap.size)->K (a.put o.dst v) ab):o.wp P a w K Q:=by
 rcases h with⟨h,_⟩|⟨_,_,B,bK,u⟩|⟨h,_⟩
 .cases h
 .rw[bK] at hs;refine kx _ bF s x bD 0 _ 0 [] hs u.row A n c xs hx ba (by rw[Nm];exact O) ad (Nq _) d λG ab bR cS H=>?_;simp only[Nm,Nu] at bR;obtain⟨I,aD,rfl,hc,_⟩:=bG bR;refine hK _ ab (bA I n aD) (.inr (.inr ⟨rfl,I,aD,rfl,bR,rfl⟩)) (NC.grown cS λg aR=>.inl (by rw[u.eq];simp[aR])) (fj _ _ _) λb O=>?_;have aZ:(Value.slice I n aD).ownBlock=some b:=by simpa using O
  refine⟨?_,(bR.lt b aZ).2⟩;rcases H with H|H
  .rw[H] at aZ;exact .inl (by rw[u.eq];simp[aZ])
  .rw[H] at aZ;injection aZ with aZ;right;omega
 .cases h
section
variable {ops:Array Oper} {Q:Exit->Act->World->Prop} {W:World} {s:ai} {gn tn hn gc tc hc:Nat} {GA TA HA:NH} {hx:List Value} {ws:Nat} {aa:Value->Value->Value->Value->Value->Value->Value->Act}
 {p0 p3 p4 p7 p8 p11 p15:String} {a0 a3 a4 a7 a8 a11 a15:Array Edge} {t15:TypeId}
theorem hv.dw{F1 F2 bJ cb:List Nat}{k:Nat}:k∈F1++(F2++(bJ++cb))↔k∈F1\/k∈F2\/k∈bJ\/k∈cb:=by simp only[Nc]
theorem World.k7(w:World)(o:Obj):(w.alloc o).heap.size=w.heap.size+1:=by first|(simp;done)|(cases o<;>simp;done)|(unfold World.alloc;simp;done)|rfl
theorem hv.fA{w ab:World}{M:List Nat}(J:Fr (λk=>k∈M) w ab)(ap:∀k∈F,k<w.heap.size)(hd:∀k∈F,k∉M):∀k∈F,ab.heap[k]?=w.heap[k]?:=λk aj=>J.block k (ap k aj) (hd k aj)
theorem GK(hG:Sl W (av W) GA gn (s.globals.map D.i))(hT:Sl W (av W) TA tn (s.table.map mq))(hH:Src W 1 HA hn hx)(Lm:HA=none->hn=0)(wi:gn<=100000)(wj:tn<=100000)(ve:hn<=100000)(mL:ws<=W.heap.size)
  (o0:ops[0]?=some ⟨some 7,.buildSlice 22 0 #[],22,p0,a0,none⟩)
  (o3:ops[3]?=some ⟨some 10,.call {callee:=.builtin .append,args:=#[.tmp 7,.tmp 9],argTypes:=#[22,22]},22,p3,a3,none⟩)
  (o4:ops[4]?=some ⟨some 11,.buildSlice 27 0 #[],27,p4,a4,none⟩)
  (o7:ops[7]?=some ⟨some 14,.call {callee:=.builtin .append,args:=#[.tmp 11,.tmp 13],argTypes:=#[27,27]},27,p7,a7,none⟩)
  (o8:ops[8]?=some ⟨some 15,.buildSlice 28 0 #[],28,p8,a8,none⟩)
  (Lp:ops[11]?=some ⟨some 18,.call {callee:=.builtin .append,args:=#[.tmp 15,.tmp 17],argTypes:=#[28,28]},28,p11,a11,none⟩)
  (Lq:ops[15]?=some ⟨some 5,.alloc 30,t15,p15,a15,none⟩)
  (q5:∀a b c d e f g x,(aa a b c d e f g).put (some 5) x=aa x b c d e f g) (q7:∀a b c d e f g x,(aa a b c d e f g).put (some 7) x=aa a x c d e f g) (Gt:∀a b c d e f g x,(aa a b c d e f g).put (some 10) x=aa a b x d e f g)
  (KU:∀a b c d e f g x,(aa a b c d e f g).put (some 11) x=aa a b c x e f g) (LA:∀a b c d e f g x,(aa a b c d e f g).put (some 14) x=aa a b c d x f g) (LB:∀a b c d e f g x,(aa a b c d e f g).put (some 15) x=aa a b c d e x g) (LC:∀a b c d e f g x,(aa a b c d e f g).put (some 18) x=aa a b c d e f x)
  (e7:∀a b c d e f g,(aa a b c d e f g).eval (.tmp 7)=b) (e9:∀a b c d e f g,(aa a b c d e f g).eval (.tmp 9)=.slice GA gn gc) (Lf:∀a b c d e f g,(aa a b c d e f g).eval (.tmp 11)=d) (Lg:∀a b c d e f g,(aa a b c d e f g).eval (.tmp 13)=.slice TA tn tc)
  (Lh:∀a b c d e f g,(aa a b c d e f g).eval (.tmp 15)=f) (Li:∀a b c d e f g,(aa a b c d e f g).eval (.tmp 17)=.slice HA hn hc)
  (iq:∀b bu cG v10 v11 aD aJ aG F1 F2 bJ cb w,hv W s gn tn hn hx w 2 2 2 b bu cG v10 v11 aD aJ aG F1 F2 bJ cb->cY prog ops Q (Fr (λk=>¬k<ws)) [16] (.free 14 (Iy b)) (aa bu cG v10 v11 aD aJ aG) w) :
  ∀(n g t h:Nat) (b:Bool),g<=2->t<=2->h<=2->(t=2->g=2)->(h=2->t=2)->7<n+g+t+h+b.toNat->∀bu cG v10 v11 aD aJ aG F1 F2 bJ cb w,hv W s gn tn hn hx w g t h b bu cG v10 v11 aD aJ aG F1 F2 bJ cb->
   cY prog ops Q (Fr (λk=>¬k<ws)) [16] (jB n g t h b) (aa bu cG v10 v11 aD aJ aG) w:=by
 intro n
 induction n with
 | zero=>intro g t h b aR ht ag _ _ hn;cases b<;>simp at hn<;>omega
 | succ n aq=>
  intro g t h b aR ht ag bF E J bu cG v10 v11 aD aJ aG F1 F2 bJ cb w hS;unfold jB;by_cases az:h=2
  .have bG:=E az;have ao:=bF bG;subst az bG ao;exact iq _ _ _ _ _ _ _ _ _ _ _ _ _ hS
  have bn:(h == 2)=false:=by simpa using az
  rw[bn];have bp:=hS.lo;have af:=hS.ext.size;have ap:∀k∈F1++(F2++(bJ++cb)),k<w.heap.size:=λk aj=>(bp k aj).2;have z:∀o:Obj,Fr (λk=>¬k<ws) w (w.alloc o):=λo=>NC.alloc o;have m:∀(o:Obj) (k:Nat),k<w.heap.size->(w.alloc o).heap[k]?=w.heap[k]?:=λo k aj=>Below.heap_alloc w o k aj;have U:∀o:Obj,(w.alloc o).heap.size=w.heap.size+1:=λo=>World.k7 w o;intro i aN;simp only[yH,Nc] at aN;rcases aN with aN|aN|aN|aN|aN|aN|aN
  ·
   cases u:(g == 0) with
   | false=>rw[u] at aN;exact absurd aN (by simp)
   | true=>
   rw[u] at aN;have c8:g=0:=by simpa using u
   have i0:i=0:=by simpa using aN
   subst c8 i0;obtain⟨y,_,ba⟩:=hS.g.begin rfl;subst y;refine⟨_,o0,λK hK=>?_⟩;rw[if_pos (by rfl)];refine Gm (hK _ _ (λ_=>z _) ?_);rw[q7];refine aq 1 t h b ad ht ag ad E ad _ _ _ _ _ _ _ [w.heap.size] F2 bJ cb _ ⟨hS.ext.alloc _,ba,hS.t.ak λk aj=>m _ k (ap k (hv.dw.2 (by simp[aj]))),hS.h.ak λk aj=>m _ k (ap k (hv.dw.2 (by simp[aj]))),?_,?_,?_⟩
   .rcases hS.o with ac|⟨ac,N,aV,aU,cB⟩
    .exact .inl ac
    .exact .inr ⟨ac,N,aV,aU,cB.alloc _⟩
   .exact qL (F1:=[]) hS.nd ap
   .intro k aj;rw[U];simp only[Nc,Nk,List.not_mem_nil,or_false] at aj;rcases aj with aj|aj
    .omega
    .have:=bp k (by simpa using aj);omega
  ·
   cases u:(g == 1) with
   | false=>rw[u] at aN;exact absurd aN (by simp)
   | true=>
   rw[u] at aN;have cd:g=1:=by simpa using u
   subst cd;have i0:i=3:=by simpa using aN
   subst i0;refine⟨_,o3,λK hK=>?_⟩;rw[if_pos (by rfl)];refine iK.fill hS.g cF (.tmp 7) (.tmp 9) rfl (e7 _ _ _ _ _ _ _) (e9 _ _ _ _ _ _ _) (by have:=Src.l0 (hG.on (Fr.ext hS.ext)).ints (gE _) (m7 _) ad;rwa [uW] at this) ad ad (λh=>by subst h;exact hG.none_) (λv ab Y ba b1 bb r=>?_);have bX:=b1.size;have l:∀k∈F1,W.heap.size<=k:=λk aj=>(bp k (hv.dw.2 (by simp[aj]))).1;have R:Ext W ab:=Fr.low (M:=λk=>k∈F1) (Fr.trans (Fr.mono hS.ext λ_ h=>h.elim) b1) l;refine hK _ _ (λ_=>b1.mono λk aj=>by have:=l k aj;omega) ?_;rw[Gt];have j:∀k,k∈F1++(F2++(bJ++cb))->k∉F1->ab.heap[k]?=w.heap[k]?:=λk aj hn=>b1.block k (ap k aj) hn;have n1:=List.nodup_append.1 hS.nd;have n2:=List.nodup_append.1 n1.2.1;have n3:=List.nodup_append.1 n2.2.1;refine aq 2 t h b ad ht ag ad E ad _ _ _ _ _ _ _ Y F2 bJ cb _ ⟨R,ba,hS.t.ak (λk aj=>j k (hv.dw.2 (by simp[aj])) (λac=>n1.2.2 k ac k (by simp[aj]) rfl)),hS.h.ak (λk aj=>j k (hv.dw.2 (by simp[aj])) (λac=>n1.2.2 k ac k (by simp[aj]) rfl)),?_,?_,?_⟩
   .rcases hS.o with ac|⟨ac,N,aV,aU,cB⟩
    .exact .inl ac
    .have q:∀k∈cb,k∉F1:=λk aj=>λac=>n1.2.2 k ac k (by simp[aj]) rfl;exact .inr ⟨ac,N,aV,aU,show _=_ from (j N (hv.dw.2 (by simp[aU])) (q N (by simp[aU]))).trans cB⟩
   .exact tQ (A:=[]) hS.nd ap bb λk aj=>(r k aj).1
   .intro k aj;rcases hv.dw.1 aj with aj|aj|aj|aj
    .have:=r k aj;have:W<=k:=by rcases this.1 with ac|ac;exact l k ac;omega
     omega
    .have:=bp k (hv.dw.2 (by simp[aj]));omega
    .have:=bp k (hv.dw.2 (by simp[aj]));omega
    .have:=bp k (hv.dw.2 (by simp[aj]));omega
  ·
   cases u:(t == 0) with
   | false=>rw[u] at aN;exact absurd aN (by simp)
   | true=>
   rw[u] at aN;have c8:t=0:=by simpa using u
   have i0:i=4:=by simpa using aN
   subst c8 i0;obtain⟨y,_,ba⟩:=hS.t.begin rfl;subst y;refine⟨_,o4,λK hK=>?_⟩;rw[if_pos (by rfl)];refine JU (hK _ _ (λ_=>z _) ?_);rw[KU];refine aq g 1 h b aR ad ag ad (λh=>ad) ad _ _ _ _ _ _ _ F1 [w.heap.size] bJ cb _ ⟨hS.ext.alloc _,hS.g.ak λk aj=>m _ k (ap k (hv.dw.2 (by simp[aj]))),ba,hS.h.ak λk aj=>m _ k (ap k (hv.dw.2 (by simp[aj]))),?_,?_,?_⟩
   .rcases hS.o with ac|⟨ac,N,aV,aU,cB⟩
    .exact .inl ac
    .exact .inr ⟨ac,N,aV,aU,cB.alloc _⟩
   .exact qL (F1:=F1) hS.nd ap
   .intro k aj;rw[U];rcases hv.dw.1 aj with aj|aj|aj|aj
    .have:=bp k (hv.dw.2 (by simp[aj]));omega
    .have:=Nv.1 aj;omega
    .have:=bp k (hv.dw.2 (by simp[aj]));omega
    .have:=bp k (hv.dw.2 (by simp[aj]));omega
  ·
   cases u:(t == 1 && g == 2) with
   | false=>rw[u] at aN;exact absurd aN (by simp)
   | true=>
   rw[u] at aN;simp only[Ng,beq_iff_eq] at u;obtain⟨t1,g2⟩:=u;subst t1 g2;have i0:i=7:=by simpa using aN
   subst i0;refine⟨_,o7,λK hK=>?_⟩;rw[if_pos (by rfl)];refine iK.fill hS.t mN (.tmp 11) (.tmp 13) rfl (Lf _ _ _ _ _ _ _) (Lg _ _ _ _ _ _ _) (Src.l0 (hT.on (Fr.ext hS.ext)).holds (eL _) (lK _) ad) ad ad (λh=>by subst h;exact hT.none_) (λv ab Y ba b1 bb r=>?_);have bX:=b1.size;have l:∀k∈F2,W.heap.size<=k:=λk aj=>(bp k (hv.dw.2 (by simp[aj]))).1;have R:Ext W ab:=Fr.low (M:=λk=>k∈F2) (Fr.trans (Fr.mono hS.ext λ_ h=>h.elim) b1) l;refine hK _ _ (λ_=>b1.mono λk aj=>by have:=l k aj;omega) ?_;rw[LA];have j:∀k,k∈F1++(F2++(bJ++cb))->k∉F2->ab.heap[k]?=w.heap[k]?:=λk aj hn=>b1.block k (ap k aj) hn;have n1:=List.nodup_append.1 hS.nd;have n2:=List.nodup_append.1 n1.2.1;have n3:=List.nodup_append.1 n2.2.1;refine aq 2 2 h b aR ad ag ad ad ad _ _ _ _ _ _ _ F1 Y bJ cb _ ⟨R,hS.g.ak (λk aj=>j k (hv.dw.2 (by simp[aj])) (λac=>n1.2.2 k aj k (by simp[ac]) rfl)),ba,hS.h.ak (λk aj=>j k (hv.dw.2 (by simp[aj])) (λac=>n2.2.2 k ac k (by simp[aj]) rfl)),?_,?_,?_⟩
   .rcases hS.o with ac|⟨ac,N,aV,aU,cB⟩
    .exact .inl ac
    .have q:∀k∈cb,k∉F2:=λk aj=>λac=>n2.2.2 k ac k (by simp[aj]) rfl;exact .inr ⟨ac,N,aV,aU,show _=_ from (j N (hv.dw.2 (by simp[aU])) (q N (by simp[aU]))).trans cB⟩
   .exact tQ (A:=F1) hS.nd ap bb λk aj=>(r k aj).1
   .intro k aj;rcases hv.dw.1 aj with aj|aj|aj|aj
    .have:=bp k (hv.dw.2 (by simp[aj]));omega
    .have:=r k aj;have:W<=k:=by rcases this.1 with ac|ac;exact l k ac;omega
     omega
    .have:=bp k (hv.dw.2 (by simp[aj]));omega
    .have:=bp k (hv.dw.2 (by simp[aj]));omega
  ·
   cases u:(h == 0) with
   | false=>rw[u] at aN;exact absurd aN (by simp)
   | true=>
   rw[u] at aN;have c8:h=0:=by simpa using u
   have i0:i=8:=by simpa using aN
   subst c8 i0;obtain⟨y,_,ba⟩:=hS.h.begin rfl;subst y;refine⟨_,o8,λK hK=>?_⟩;rw[if_pos (by rfl)];refine JV (hK _ _ (λ_=>z _) ?_);rw[LB];refine aq g t 1 b aR ht ad bF ad ad _ _ _ _ _ _ _ F1 F2 [w.heap.size] cb _ ⟨hS.ext.alloc _,hS.g.ak λk aj=>m _ k (ap k (hv.dw.2 (by simp[aj]))),hS.t.ak λk aj=>m _ k (ap k (hv.dw.2 (by simp[aj]))),ba,?_,?_,?_⟩
   .rcases hS.o with ac|⟨ac,N,aV,aU,cB⟩
    .exact .inl ac
    .exact .inr ⟨ac,N,aV,aU,cB.alloc _⟩
   .have:=qL (F1:=F1++F2) (F2:=cb) (by simpa using hS.nd) (by simpa using ap);simpa using this
   .intro k aj;rw[U];rcases hv.dw.1 aj with aj|aj|aj|aj
    .have:=bp k (hv.dw.2 (by simp[aj]));omega
    .have:=bp k (hv.dw.2 (by simp[aj]));omega
    .have:=Nv.1 aj;omega
    .have:=bp k (hv.dw.2 (by simp[aj]));omega
  ·
   cases u:(h == 1 && t == 2) with
   | false=>rw[u] at aN;exact absurd aN (by simp)
   | true=>
   rw[u] at aN;simp only[Ng,beq_iff_eq] at u;obtain⟨ac,t2⟩:=u;have g2:=bF t2;subst ac t2 g2;have i0:i=11:=by simpa using aN
   subst i0;refine⟨_,Lp,λK hK=>?_⟩;rw[if_pos (by rfl)];refine iK.fill hS.h tk (.tmp 15) (.tmp 17) rfl (Lh _ _ _ _ _ _ _) (Li _ _ _ _ _ _ _) (hH.on (Fr.ext hS.ext)) ad ad Lm (λv ab Y ba b1 bb r=>?_);have bX:=b1.size;have l:∀k∈bJ,W.heap.size<=k:=λk aj=>(bp k (hv.dw.2 (by simp[aj]))).1;have R:Ext W ab:=Fr.low (M:=λk=>k∈bJ) (Fr.trans (Fr.mono hS.ext λ_ h=>h.elim) b1) l;refine hK _ _ (λ_=>b1.mono λk aj=>by have:=l k aj;omega) ?_;rw[LC];have j:∀k,k∈F1++(F2++(bJ++cb))->k∉bJ->ab.heap[k]?=w.heap[k]?:=λk aj hn=>b1.block k (ap k aj) hn;have n1:=List.nodup_append.1 hS.nd;have n2:=List.nodup_append.1 n1.2.1;have n3:=List.nodup_append.1 n2.2.1;refine aq 2 2 2 b aR ht ad ad ad ad _ _ _ _ _ _ _ F1 F2 Y cb _ ⟨R,hS.g.ak (λk aj=>j k (hv.dw.2 (by simp[aj])) (λac=>n1.2.2 k aj k (by simp[ac]) rfl)),hS.t.ak (λk aj=>j k (hv.dw.2 (by simp[aj])) (λac=>n2.2.2 k aj k (by simp[ac]) rfl)),ba,?_,?_,?_⟩
   .rcases hS.o with ac|⟨ac,N,aV,aU,cB⟩
    .exact .inl ac
    .have q:∀k∈cb,k∉bJ:=λk aj=>λac=>n3.2.2 k ac k aj rfl;exact .inr ⟨ac,N,aV,aU,show _=_ from (j N (hv.dw.2 (by simp[aU])) (q N (by simp[aU]))).trans cB⟩
   .have:=tQ (A:=F1++F2) (B:=bJ) (C:=cb) (by simpa using hS.nd) (by simpa using ap) bb (λk aj=>(r k aj).1);simpa using this
   .intro k aj;rcases hv.dw.1 aj with aj|aj|aj|aj
    .have:=bp k (hv.dw.2 (by simp[aj]));omega
    .have:=bp k (hv.dw.2 (by simp[aj]));omega
    .have:=r k aj;have:W<=k:=by rcases this.1 with ac|ac;exact l k ac;omega
     omega
    .have:=bp k (hv.dw.2 (by simp[aj]));omega
  ·
   cases b with
   | true=>simp at aN
   | false=>
   have i0:i=15:=by simpa using aN
   subst i0;refine⟨_,Lq,λK hK=>?_⟩;rw[if_pos (by rfl)];refine JT (hK _ _ (λ_=>z _) ?_);rw[q5];have aU:cb=[]:=by
    rcases hS.o with⟨_,_,h⟩|⟨h,_⟩
    .exact h
    .cases h
   subst aU;refine aq g t h true aR ht ag bF E (by simp at J ⊢;omega) _ _ _ _ _ _ _ F1 F2 bJ [w.heap.size] _ ⟨hS.ext.alloc _,hS.g.ak λk aj=>m _ k (ap k (hv.dw.2 (by simp[aj]))),hS.t.ak λk aj=>m _ k (ap k (hv.dw.2 (by simp[aj]))),hS.h.ak λk aj=>m _ k (ap k (hv.dw.2 (by simp[aj]))),.inr ⟨rfl,_,rfl,rfl,ND⟩,?_,?_⟩
   .have:=qL (F1:=F1++(F2++bJ)) (F2:=[]) (by simpa using hS.nd) (by simpa using ap);simpa using this
   .intro k aj;rw[U];rcases hv.dw.1 aj with aj|aj|aj|aj
    .have:=bp k (hv.dw.2 (by simp[aj]));omega
    .have:=bp k (hv.dw.2 (by simp[aj]));omega
    .have:=bp k (hv.dw.2 (by simp[aj]));omega
    .have:=Nv.1 aj;omega
end
structure RO(P:Nat->Prop)(B:Nat)(w:World)(s:ai)(k:Nat)(fs:List ao)(f:ao)(N:Nat)(q:SV)(O lb lc:Nat)(hx b2:List Value)(IA:NH)(ic:Nat)(bC:NH)(aH:Nat)(F1 F2 a8:List Nat):Prop where
 th:s.threads[k]?=some (fs++[f])
 gl:q.gn=s.globals.length
 tl:q.tn=s.table.length
 hl:q.hn=s.threads.length
 g:Own w 3 1 q.GA q.gn q.gc (s.globals.map dv) F1
 t:Own w 138 2 q.TA q.tn q.tc (s.table.flatMap ch) F2
 h:Own w 95 1 q.HA q.hn q.hc hx [O]
 m3:q.HA=some ⟨O,0,none⟩
 rH:∀j cT,j≠k->s.threads[j]?=some cT->∃u,hx[j]?=some u/\(mY cT).rep w P [u]
 Ao:hx[k]?=some (.slice (some ⟨lb,0,none⟩) (fs.length+1) lc)
 l:Own w 77 4 (some ⟨lb,0,none⟩) (fs.length+1) lc (b2++[.int .i64 f.proc,.int .i64 f.pc,.slice IA f.ints.length ic,.slice bC f.az.length aH]) [lb]
 fr:D.aQ w P (fs.map gP) b2
 lk:Sl w P bC f.az.length (f.az.map D.i)
 IG:f.az.length<=aH
 i:Own w 3 1 IA f.ints.length ic (f.ints.map dv) a8
 o:an w N 30 (q.val s)
 nd:(N::O::lb::(F1++(F2++a8))).Nodup
 lo:∀b∈N::O::lb::(F1++(F2++a8)),B<=b/\b<w.heap.size
 pb:∀b,P b->b<B
def Ki(P:Nat->Prop)(w:World)(s:ai)(k:Nat)(fs:List ao)(f:ao)(e:Ending)(ab:World):Prop:=∃q O lb lc hx b2 IA ic bC aH F1 F2 a8,e=.returned (.agg (q.val s))/\Ext w ab/\
 ∀V N,Ext ab V->an V N 30 (q.val s)->ab.heap.size<=N->RO P w.heap.size V s k fs f N q O lb lc hx b2 IA ic bC aH F1 F2 a8
namespace DX
theorem fC{p:Prop}(h:p:=by
 refine cj ?_;generalize hX:World.setCell _ _ _=X;obtain⟨bW,b9⟩:=kY 0 [.slice cR gn c1,.slice A2 tn c2,.slice cu hn c3,.int .i64 s.fault] aN hX;have bE:an X N 30 #[.slice cR gn c1,.slice A2 tn c2,.slice cu hn c3,.int .i64 s.fault]:=bW;have bl:∀k∈F1++(F2++bJ),k≠N:=by
  have:=eM (A:=F1++(F2++bJ)) (B:=[]) (x:=N) (by simpa using bb);simpa using this
 have bU:∀k,k∈F1++(F2++bJ)->k∈F1++(F2++(bJ++[N])):=λk aj=>by
  simp only[Nc] at aj ⊢;rcases aj with aj|aj|aj
  .exact .inl aj
  .exact .inr (.inl aj)
  .exact .inr (.inr (.inl aj))
 have aE:∀k∈F1++(F2++bJ),X.heap[k]?=V.heap[k]?:=λk aj=>b9.block k (bp k (bU k aj)).2 (bl k aj);have bt:Ext W X:=Fr.low (M:=λb=>b=N) (Fr.trans (Fr.mono aC λ_ h=>h.elim) b9) λb O=>by rw[O];exact cv.1
 have aP:=hz (r.ak λk aj=>aE k (by simp[aj])) (aR.ak λk aj=>aE k (by simp[aj])) (aQ.ak λk aj=>aE k (by simp[aj])) bE bb (λk aj=>(⟨(bp k aj).1,by have:=(bp k aj).2;have:=b9.size;omega⟩:W.heap.size<=k/\k<X.heap.size)) bt;obtain⟨a0,ak,af⟩:=(al.2.1.aj bt).two;have aK:Ext w X:=al.1.trans bt;have n:∀b,P b->X.heap[b]?=w.heap[b]?:=λb O=>aK.block b (bH.2.1 b O) λh=>h;obtain⟨dx,d0,c9,FA,m,fc,ct,T,au,dh,bR,bZ⟩:=bH.1.at_.h.v3 (k:=t.toNat) (by show t.toNat<hn;omega);simp only at ct;subst ct;have dy:c9=fs++[f]:=by have:=bH.2.2.2.1;rw[au] at this;injection this
 subst dy;obtain rfl:m=fs.length+1:=by have:=bZ.1;simpa using this.symm
 have dI:=(aK.cell (j:=d0+t.toNat) (bH.2.1 _ T) λh=>h).trans dh;have dp:=bZ.ak n;have cI:dx<X:=by have:=bH.2.1 _ T;have:=aK.size;omega
 have cJ:∀d∈(fs++[f]).map gP,d.sz=4:=λd hd=>by obtain⟨x,_,rfl⟩:=Ns.1 hd;rfl
 obtain⟨dO,ce,aw⟩:=Sl.src (z:=4) dp cJ;rw[Na] at ce;obtain⟨bD,cV,rfl,bF,aI⟩:=D.kp ce;obtain⟨IA,ii,ic,bC,dM,aH,rfl,aM,bo,bO,bS⟩:=gz.1 (D.bx.1 aI);have dn:bD.length=fs.length*4:=by rw[D.hP _ _ bF,D.hi (z:=4) (λd hd=>by obtain⟨x,_,rfl⟩:=Ns.1 hd;rfl),M5]
 obtain rfl:ii=f.ints.length:=by have:=bO.1;simpa using this.symm
 obtain rfl:dM=f.az.length:=by have:=bS.1;simpa using this.symm
 have dD:=b7.2.2.2;have bf:FA=none->fs.length+1=0:=λh=>by subst h;exact dp.none_
 have hIn:IA=none->f.ints.length=0:=λh=>by subst h;exact bO.none_
 have cQ:cp (EF bQ) 1 X X IA f.ints.length f.ints:=(bO.mono (cU:=av X) λb O=>by have:=bH.2.1 b O;have:=aK.size;show b<X.heap.size;omega).ints;have bB:=dH bF bS bo cQ aK dn;have bI:=ay aw bf hIn;obtain⟨cd,cL,a2,dC,cw,cD,cE⟩:=aP.2.2.1.block ad;subst cL;have c6:=br a2 cw cD cE;clear e0 a6 ag hX bW b9 bE bl bU aE r aR aQ aN bb bp aC au T dh bZ n cJ ce aI bF bS bO aM bo cQ aw bf hIn aK bt a2 cw cD cE dp bR;go_upto_region 3 with(at_builtin;refine gu _ yB (by rfl) (.tmp 22) (.tmp 28) (by rfl) (by rfl) _ _ _ _ (by rfl) bI.1 ad ad bI.2.1 ?_;intro dE ci aO aA b2;have H1:=ah aA b2;clear aA b2);have cn:=H1.2.size;obtain⟨lb,dj,di,b0,cM,dk,cO⟩:=iF H1.1 ad;subst dj;have d2:aO.cell? ⟨lb,fs.length*4+2,none⟩=some (.slice IA f.ints.length ic):=cM _ _ (by rw[<-bB.2.2.2.2.2,List.getElem?_append_right ad,Nat.add_sub_cancel_left];rfl);have b6:Src aO 1 IA f.ints.length (f.ints.map dv):=by
  have:=Src.l0 (bB.2.2.2.1.cD H1.2 H1.2.size) (gE _) (m7 _) ad
  rwa [uW] at this
 have bT:=ay b6 di cO;have cP:=dk;clear b6 cO cM;go_upto_region 4 with(at_builtin;refine gu _ cF (by rfl) (.tmp 34) (.tmp 41) (by rfl) (by rfl) _ _ _ _ (by rfl) bT.1 ad ad bI.2.2 ?_;intro ds cX aW S bn;have b1:=ah S bn;obtain⟨f0,cH,dS⟩:aW.cell? ⟨lb,fs.length*4+2,none⟩=some (.slice IA f.ints.length ic)/\(∀j,aW.frozen? ⟨lb,j,none⟩=false)/\lb<aW:=⟨((Fr.of (M:=λ_=>False) bn).cell b0 λh=>h).trans d2,λj=>((Fr.of (M:=λ_=>False) bn).frozen b0 λh=>h).trans (cP j),M0 b0 bn.size⟩;clear S bn);generalize co:World.setCell _ _ _=Y;obtain⟨dz,b3,-,-,-,-,b5⟩:=iF (bV H1.1 b1.2) ad;obtain rfl:lb=dz:=by simpa using b3
 have de:Y.ownsRow X 77 4 (.slice (some ⟨lb,0,none⟩) (fs.length+1) ci) (fs.length+1) ((bD++[Value.int .i64 f.proc,.int .i64 f.pc,.slice IA f.ints.length ic,.slice bC f.az.length aH]).set (fs.length*4+2) (.slice ds f.ints.length cX)):=by
  rw[<-co];exact b5 _ _ ad
 have ar:Fr (λb=>b=lb) aW Y:=co▸(Fr.refl (λb=>b=lb) _).setCell (.inl rfl) _;have cK:Ext X Y:=Fr.low (M:=λb=>b=lb) (Fr.trans (Fr.trans (Fr.of H1.2) (Fr.of (Below.mono b1.2 (MU _)))) ar) λb O=>by rw[O];exact bT.2.1
 have bN:∀b∈bA ds f.ints.length cX,aO.heap.size<=b/\b<aW.heap.size:=λb O=>b1.1.lt b (by simpa using O);have db:Own Y 3 1 ds f.ints.length cX (f.ints.map dv) (bA ds f.ints.length cX):=Own.ak (w:=aW) ⟨ja b1.1 (Nq _),rfl⟩ λb O=>ar.block b (bN b O).2 (ax (bN b O));have cg:∀b∈bA ds f.ints.length cX,aO.heap.size<=b/\b<Y.heap.size:=λb O=>⟨(bN b O).1,M0 (bN b O).2 ar.size⟩
 have cW:=aP.2.2.1.aj cK;have bK:=aP.2.2.2.1.aj cK;obtain⟨e0,a6,ag⟩:=bK.two;have aZ:hx.length=hn:=by
  rw[D.hP _ _ bH.2.2.2.2.1,D.hi (z:=1) (λd hd=>by obtain⟨x,_,rfl⟩:=Ns.1 hd;rfl),M5,Nat.mul_one];exact b7.2.2.1
 obtain⟨aT,am,-,dt,bX,cq,bY⟩:=cW.block ad;obtain rfl:cd=aT:=by simpa using am
 obtain⟨dN,dl⟩:∃u,hx[t.toNat]?=some u:=⟨_,List.getElem?_eq_getElem ad⟩
 have c8:=bX t.toNat dN dl;have dL:lb<Y:=M0 dS ar.size;have dG:=cK.size;have dK:=bT.2.1;have aL:=rY de cK db cg cW bK aZ bY;clear dl co b3 b5 de ar cK bN db cg cW bK am bX bY f0 cH d2 cP aZ;go_upto_region 5 with(fail);generalize cA:World.setCell _ _ _=Z;have bb:=aP.2.2.2.2.1;have ab:=aP.2.2.2.2.2.1;rw[c6.1] at bb ab;have bl:∀b∈F1++F2++[N],b≠cd:=eM (A:=F1++F2) (B:=[N]) (x:=cd) (by simpa using bb);have da:Own Z 95 1 (some ⟨cd,0,none⟩) hn c3 (hx.set t.toNat (.slice (some ⟨lb,0,none⟩) (fs.length+1) ci)) bJ:=cA▸aL.2.2.2.2.2.2.2 t.toNat _ ad;have bs:Fr (λb=>b=cd) Y Z:=cA▸(Fr.refl (λb=>b=cd) _).setCell (.inl rfl) _;have c0:∀b,b<X.heap.size->b≠cd->Z.heap[b]?=X.heap[b]?:=λb O hn=>(bs.block b (M0 O aL.2.1.size) hn).trans (aL.2.1.block b O λh=>h);have bc:=aP.1.ak λb O=>c0 b (ab b (by simp[O])).2 (bl b (by simp[O]));have dg:=aP.2.1.ak λb O=>c0 b (ab b (by simp[O])).2 (bl b (by simp[O]));have L:(bD++[Value.int .i64 f.proc,.int .i64 f.pc,.slice IA f.ints.length ic,.slice bC f.az.length aH]).set (fs.length*4+2) (.slice ds f.ints.length cX)=bD++[Value.int .i64 f.proc,.int .i64 f.pc,.slice ds f.ints.length cX,.slice bC f.az.length aH]:=by
  have:=bB.2.2.2.2.2;rw[List.set_append_right _ _ ad,this,Nat.add_sub_cancel_left];rfl
 have df:Own Z 77 4 (some ⟨lb,0,none⟩) (fs.length+1) ci (bD++[Value.int .i64 f.proc,.int .i64 f.pc,.slice ds f.ints.length cX,.slice bC f.az.length aH]) [lb]:=by
  rw[<-L];exact Own.ak (w:=Y) ⟨ja aL.1 (Nq _),rfl⟩ λb O=>bs.block b (ax (Nv.1 O)) (ax (Nv.1 O))
 have cg:=aL.2.2.2.1;have dd:=aL.2.2.1.ak λb O=>bs.block b (cg b O).2 (ax (cg b O));have bm:=aL.2.2.2.2.2.1.on bs (bl N (by simp));have bL:Ext W Z:=Fr.low (M:=λb=>b=cd) (Fr.trans (Fr.mono (aP.2.2.2.2.2.2.trans aL.2.1) λ_ h=>h.elim) bs) λb O=>by rw[O];exact(ab cd (by simp)).1
 have bk:=al.2.2.1.aj bL;have bd:Ext w Z:=al.1.trans bL;have y:∀b∈cd::lb::(F1++(F2++bA ds f.ints.length cX)),W<=b/\b<Z:=by
  have ac:=aP.2.2.2.2.2.2.size;have az:=bs.size;intro b O;rcases Nk.1 O with O|O
  .have:=ab cd (by simp);omega
  rcases Nk.1 O with O|O
  .omega
  rcases Nc.1 O with O|O
  .have:=ab b (by simp[O]);omega
  rcases Nc.1 O with O|O
  .have:=ab b (by simp[O]);omega
  .have:=cg b O;omega
 have bz:(cd::lb::(F1++(F2++bA ds f.ints.length cX))).Nodup:=by
  have dB:(F1++F2).Nodup:=by have:=bb;rw[<-List.append_assoc] at this;exact(List.nodup_append.1 this).1
  have cS:(F1++F2++bA ds f.ints.length cX).Nodup:=List.nodup_append.2 ⟨dB,fj _ _ _,λa bg b O h=>by
   have aV:=cg b O;have aU:a<X:=(ab a (by rcases Nc.1 bg with h|h<;>simp[h])).2;omega⟩
  rw[Ni] at cS;refine List.nodup_cons.2 ⟨λh=>?_,List.nodup_cons.2 ⟨λh=>?_,cS⟩⟩
  .rcases Nk.1 h with O|O
   .omega
   rcases Nc.1 O with O|O
   .exact bl cd (by simp[O]) rfl
   rcases Nc.1 O with O|O
   .exact bl cd (by simp[O]) rfl
   .have:=cg cd O;omega
  .rcases Nc.1 h with O|O
   .have:=ab lb (by simp[O]);omega
   rcases Nc.1 O with O|O
   .have:=ab lb (by simp[O]);omega
   .have:=cg lb O;omega
 have aZ:=aL.2.2.2.2.2.2.1;obtain⟨e0,a6,ag⟩:=bm.two;obtain⟨bq,a1,a5⟩:=bk.two;have bj:=Bd bc dg da df dd bk bd y bz aZ;clear cA bb ab bl da bs c0 bc dg L df cg dd bm bL bk bd y bz aZ c8 cq;go_wp2_with(fail);generalize hU:World.setCell _ _ _=U;obtain⟨cN,cl,bM⟩:=a9 (w:=w) [.slice cR gn c1,.slice A2 tn c2,.slice (some ⟨cd,0,none⟩) hn c3,.int .i64 s.fault] (by rfl) bj.2.2.2.2.2.1 bj.2.2.2.2.2.2.1 ad hU;have cz:=ah cl bM;clear hU cl bM e0 a6 ag bq a1 a5;obtain⟨bq,a1,a5⟩:=cN.two;refine NB (v:=.agg #[.slice cR gn c1,.slice A2 tn c2,.slice (some ⟨cd,0,none⟩) hn c3,.int .i64 s.fault]) (by simp[results,Tryz.results86,go_sem,bq]) rfl ?_;obtain⟨hG,hT,hH,bx,hI,-,-,y,bz,aZ⟩:=bj.o;refine⟨⟨cR,gn,c1,A2,tn,c2,some ⟨cd,0,none⟩,hn,c3⟩,cd,lb,ci,hx.set t.toNat (.slice (some ⟨lb,0,none⟩) (fs.length+1) ci),bD,ds,cX,bC,aH,F1,F2,bA ds f.ints.length cX,rfl,cz.1,λV dF aC b4 dJ=>?_⟩;have bM:=cz.2;have dc:=bM.size;have dm:=aC.size;have dr:∀b,W.heap.size<=b->b<Z.heap.size->V.heap[b]?=Z.heap[b]?:=λb ac az=>(aC.block b ad λh=>h).trans (bM.block b az ad);have c7:∀b,P b->V.heap[b]?=w.heap[b]?:=λb O=>(cz.1.trans aC).block b (bH.2.1 b O) λh=>h;have cf:∀b,P b->V.heap[b]?=X.heap[b]?:=λb O=>(c7 b O).trans (bB.2.2.2.2.1.block b (bH.2.1 b O) λh=>h).symm;have aS:∀b∈cd::lb::(F1++(F2++bA ds f.ints.length cX)),V.heap[b]?=Z.heap[b]?:=λb O=>dr b (y b O).1 (y b O).2;have a2:=c6.1;have du:t.toNat<hx.length:=ad
 refine {th:=bH.2.2.2.1,gl:=b7.1.symm,tl:=b7.2.1.symm,hl:=b7.2.2.1.symm,g:=hG.ak λb O=>aS b (by simp[O]),t:=hT.ak λb O=>aS b (by simp[O]),h:=?_,m3:=rfl,rH:=λj cT bi cc=>?_,Ao:=by simp[du],l:=bx.ak λb O=>aS b (by simp[Nv.1 O]),fr:=D.bZ cf _ _ bB.1,lk:=bB.2.1.ak cf,IG:=bB.2.2.1,i:=hI.ak λb O=>aS b (by simp[O]),o:=b4,nd:=?_,lo:=λb O=>?_,pb:=bH.2.1}
 .rw[<-a2];exact hH.ak λb O=>aS b (by rw[a2] at O;simp[Nv.1 O])
 .obtain⟨cs,ba,c4,b8⟩:=D.pJ (z:=1) bH.2.2.2.2.1 (λd hd=>by obtain⟨x,_,rfl⟩:=Ns.1 hd;rfl) (k:=j) (d:=mY cT) (by rw[List.getElem?_map,cc];rfl);obtain⟨u,rfl⟩:=List.length_eq_one_iff.1 c4;have h0:=b8 0 u rfl;simp only[Nat.mul_one,Nd] at h0;exact⟨u,by rw[List.getElem?_set_ne (λh=>bi h.symm)];exact h0,D.aO c7 _ _ ba⟩
 .exact List.nodup_cons.2 ⟨λh=>by have:=y dF h;omega,bz⟩
 .rcases Nk.1 O with O|O
  .subst O;exact⟨ad,b4.lt⟩
  .have:=y b O;omega
 ):p:=h
end DX
open DX in
theorem Hm(P:Nat->Prop)(s:ai)(t:Int)(fs:List ao)(f:ao)(q:SV)(w:World)(h:q.Is w P s)(bh:∀b,P b->b<w.heap.size)(aY:Small s)(c5:0<=t)(bv:s.threads[t.toNat]?=some (fs++[f])) :
  Calls prog 86 #[.agg (q.val s),t] w (Ki P w s t.toNat fs f):=by
 obtain⟨GA,gn,gc,TA,tn,tc,HA,hn,hc⟩:=q;have ca:=h.ok bh;have cv:s.globals.length=gn:=by have ac:=h.at_.g.1;rw[M5] at ac;exact ac
 have cC:s.table.length=tn:=by have ac:=h.at_.t.1;rw[M5] at ac;exact ac
 have bw:s.threads.length=hn:=by have ac:=h.at_.h.1;rw[M5] at ac;exact ac
 have wi:gn<=100000:=by have:=aY.g;omega
 have wj:tn<=100000:=by have:=aY.t;omega
 have ve:hn<=100000:=by have:=aY.h;omega
 have dw:t<(hn:Int):=by have:=(List.getElem?_eq_some_iff.1 bv).1;omega
 have cr:=(aY.f _ (M4 bv)).1;rw[M3] at cr;simp only[Nh,Nn] at cr;have cy:=(aY.f _ (M4 bv)).2 f (by simp);obtain⟨hx,aB,cm⟩:=Sl.src (z:=1) h.at_.h (λd hd=>by obtain⟨x,_,rfl⟩:=Ns.1 hd;rfl);have bH:=dH h bh ca bv aB cm;have b7:=br cv cC bw cy;clear h bh ca bv aB cm cv cC bw aY cy;dsimp only[SV.val];go_enter func86,ntmps86;go_upto_region 1 with(fail);generalize be:World.alloc _ _=W;have aF:=g0 be;have bG:=e5 be;have cx:=eT be;have al:=br aF bG cx (bH.2.2.1.on aF);have cZ:=aF.size;have dA:=cx.lt;obtain⟨a0,ak,af⟩:=bG.two;obtain⟨ws,mL⟩:∃ws,ws=W.heap.size:=⟨_,rfl⟩
 have ck:w<ws:=ad;have aX:=ae mL;clear be aF bG cx mL;refine sK (λb=>¬b<ws) [16] (.free 1 (.held 2 (.free 5 (.held 6 (.free 9 (.held 10 (.free 12 (.held 13 (jB 8 0 0 0 false))))))))) ?_;refine tf ?_;refine pd ?_;refine tf ?_;refine pd ?_;refine tf ?_;refine pd ?_;refine tf ?_;refine pd ?_;refine GK (W:=W) (s:=s) (gn:=gn) (tn:=tn) (hn:=hn) (gc:=gc) (tc:=tc) (hc:=hc) (GA:=GA) (TA:=TA) (HA:=HA) (hx:=hx) (ws:=ws) (p0:=?Mo) (a0:=?L6) (p3:=?My) (a3:=?Me) (p4:=?MM) (a4:=?MG) (p7:=?Mz) (a7:=?Mf) (p8:=?MB) (a8:=?Mg) (p11:=?Mp) (a11:=?L7) (p15:=?Mq) (a15:=?L8) (t15:=?MC) (aa:=(λbu cG v10 v11 aD aJ aG=>⟨#[.agg #[.slice GA gn gc,.slice TA tn tc,.slice HA hn hc,.int .i64 s.fault],t,.pointer (some ⟨w,0,none⟩),undef,.pointer (some ⟨w.heap.size+1,0,none⟩),bu,undef,cG,.pointer (some ⟨w,0,none⟩),.slice GA gn gc,v10,v11,.pointer (some ⟨w,1,none⟩),.slice TA tn tc,aD,aJ,.pointer (some ⟨w,2,none⟩),.slice HA hn hc,aG,.pointer (some ⟨w,3,none⟩),.int .i64 s.fault,undef,undef,undef,undef,undef,undef,undef,undef,undef,undef,undef,undef,undef,undef,undef,undef,undef,undef,undef,undef,undef,undef,undef,undef,undef,undef,undef,undef,undef,undef,undef],[]⟩)) ?hG ?hT ?hH ?Lm ?wi ?wj ?ve ?mL ?o0 ?o3 ?o4 ?o7 ?o8 ?Lp ?Lq ?q5 ?q7 ?Gt ?KU ?LA ?LB ?LC ?e7 ?e9 ?Lf ?Lg ?Lh ?Li ?iq 8 0 0 0 false ?n1 ?n2 ?n3 ?n4 ?n5 ?n6 undef undef undef undef undef undef undef [] [] [] [] W.drew ?start
 case hG=>exact al.2.2.2.at_.g
 case hT=>exact al.2.2.2.at_.t
 case hH=>exact bH.2.2.2.2.2.on (Fr.ext al.1)
 case Lm=>exact λh=>by subst h;exact al.2.2.2.at_.h.none_
 case wi=>exact wi
 case wj=>exact wj
 case ve=>exact ve
 case mL=>have:=aX.o;omega
 case o0=>rfl
 case o3=>rfl
 case o4=>rfl
 case o7=>rfl
 case o8=>rfl
 case Lp=>rfl
 case Lq=>rfl
 case q5=>intro _ _ _ _ _ _ _ _;rfl
 case q7=>intro _ _ _ _ _ _ _ _;rfl
 case Gt=>intro _ _ _ _ _ _ _ _;rfl
 case KU=>intro _ _ _ _ _ _ _ _;rfl
 case LA=>intro _ _ _ _ _ _ _ _;rfl
 case LB=>intro _ _ _ _ _ _ _ _;rfl
 case LC=>intro _ _ _ _ _ _ _ _;rfl
 case e7=>intro _ _ _ _ _ _ _;rfl
 case e9=>intro _ _ _ _ _ _ _;rfl
 case Lf=>intro _ _ _ _ _ _ _;rfl
 case Lg=>intro _ _ _ _ _ _ _;rfl
 case Lh=>intro _ _ _ _ _ _ _;rfl
 case Li=>intro _ _ _ _ _ _ _;rfl
 case n1=>omega
 case n2=>omega
 case n3=>omega
 case n4=>omega
 case n5=>omega
 case n6=>simp
 case start=>exact⟨NC.drew,.inl ⟨rfl,rfl,rfl,rfl⟩,.inl ⟨rfl,rfl,rfl,rfl⟩,.inl ⟨rfl,rfl,rfl,rfl⟩,.inl ⟨rfl,rfl,rfl⟩,by simp,λk aj=>by simp at aj⟩
 case iq=>
  intro b bu cG v10 v11 aD aJ aG F1 F2 bJ cb V hC;obtain⟨cR,c1,rfl,r⟩:∃A c,v10=.slice A gn c/\Own V 3 1 A gn c (s.globals.map dv) F1:=by
   rcases hC.g with⟨h,_⟩|⟨h,_⟩|⟨_,h⟩
   .cases h
   .cases h
   .exact h
  obtain⟨A2,c2,rfl,aR⟩:∃A c,aD=.slice A tn c/\Own V 138 2 A tn c (s.table.flatMap ch) F2:=by
   rcases hC.t with⟨h,_⟩|⟨h,_⟩|⟨_,h⟩
   .cases h
   .cases h
   .exact h
  obtain⟨cu,c3,rfl,aQ⟩:∃A c,aG=.slice A hn c/\Own V 95 1 A hn c hx bJ:=by
   rcases hC.h with⟨h,_⟩|⟨h,_⟩|⟨_,h⟩
   .cases h
   .cases h
   .exact h
  refine tf ?_;refine x3 (P:=?P1) (ops:=?ML) (Q:=?MP) (R:=?MR) (tails:=?MT) (rest:=.pick [16] (λ_=>.stop)) (aa:=?MI) (C:=λ(N:Nat) V=>Ext W V/\Own V 3 1 cR gn c1 (s.globals.map dv) F1/\Own V 138 2 A2 tn c2 (s.table.flatMap ch) F2/\Own V 95 1 cu hn c3 hx bJ/\an V N 30 #[(),(),(),(0:Int)]/\(F1++(F2++(bJ++[N]))).Nodup/\∀k∈F1++(F2++(bJ++[N])),W<=k/\k<V.heap.size) (λkey=>?main) ?key
  case main=>
   rcases hC.o with⟨rfl,rfl,aU⟩|⟨rfl,N,rfl,aU,cB⟩
   .subst aU;show cY _ _ _ _ _ (.pick [15] λ_=>.pick [16] λ_=>.stop) _ _
    refine aq ?_;refine ep ?_;have ap:∀k∈F1++(F2++(bJ++[])),k<V.heap.size:=λk aj=>(hC.lo k aj).2;have hD:Ext W (V.alloc (.cells #[(),(),(),(0:Int)] 30))/\Own (V.alloc (.cells #[(),(),(),(0:Int)] 30)) 3 1 cR gn c1 (s.globals.map dv) F1/\Own (V.alloc (.cells #[(),(),(),(0:Int)] 30)) 138 2 A2 tn c2 (s.table.flatMap ch) F2/\Own (V.alloc (.cells #[(),(),(),(0:Int)] 30)) 95 1 cu hn c3 hx bJ/\an (V.alloc (.cells #[(),(),(),(0:Int)] 30)) V 30 #[(),(),(),(0:Int)]/\(F1++(F2++(bJ++[V.heap.size]))).Nodup/\∀k∈F1++(F2++(bJ++[V.heap.size])),W.heap.size<=k/\k<(V.alloc (.cells #[(),(),(),(0:Int)] 30)).heap.size:=by
     refine⟨hC.ext.alloc _,r.aj (NC.alloc _),aR.aj (NC.alloc _),aQ.aj (NC.alloc _),ND,?_,λk aj=>?_⟩
     .have:=qL (F1:=F1++(F2++bJ)) (F2:=[]) (by simpa using hC.nd) (by simpa using ap);simpa using this
     .rw[World.k7];have dm:=hC.ext.size;rcases hv.dw.1 aj with aj|aj|aj|aj
      .have:=hC.lo k (hv.dw.2 (.inl aj));omega
      .have:=hC.lo k (hv.dw.2 (.inr (.inl aj)));omega
      .have:=hC.lo k (hv.dw.2 (.inr (.inr (.inl aj))));omega
      .have:=Nv.1 aj;omega
    generalize V.alloc (.cells #[(),(),(),(0:Int)] 30)=dq at hD ⊢;generalize V.heap.size=N at hD ⊢;exact key N dq hD
   .subst aU;show cY _ _ _ _ _ (.pick [16] λ_=>.stop) _ _
    exact key N V ⟨hC.ext,r,aR,aQ,cB,hC.nd,hC.lo⟩
  clear hC r aR aQ V b;intro N V ⟨aC,r,aR,aQ,aN,bb,bp⟩;obtain⟨e0,a6,ag⟩:=aN.two;have cv:=bp N (by simp);clear a0 ak af;exact fQ
theorem nn{α:Type}{enc:α->D}{w:World}{P:Nat->Prop}:∀(l:List α) (xs:List Value),xs.length=l.length->(∀(j:Nat) (x:α),l[j]?=some x->∃u,xs[j]?=some u/\(enc x).rep w P [u])->D.aQ w P (l.map enc) xs
 | [],[],_,_=>aR.2 rfl
 | [],_::_,h,_=>by simp at h
 | _::_,[],h,_=>by simp at h
 | a::l,v::xs,h,hp=>by
  obtain⟨u,hu,ba⟩:=hp 0 a rfl;simp only[List.getElem?_cons_zero,Nw] at hu;subst hu;exact dL.2 ⟨[v],xs,rfl,ba,nn l xs (by simpa using h) λj x hx=>by simpa using hp (j+1) x (by simpa using hx)⟩
section
variable {P:Nat->Prop} {B:Nat} {w ab:World} {s aq:ai} {k:Nat} {fs:List ao} {f b0:ao} {N:Nat} {q:SV} {O lb lc:Nat} {hx b2:List Value} {IA:NH} {ic:Nat} {bC:NH} {aH:Nat} {F1 F2 a8:List Nat}
theorem RO.LX(h:RO P B w s k fs f N q O lb lc hx b2 IA ic bC aH F1 F2 a8):q.Is w (λb=>P b\/(B<=b/\b<w.heap.size/\b≠N)) s:=by
 have bp:=h.lo;have aB:∀b∈O::lb::(F1++(F2++a8)),P b\/(B<=b/\b<w.heap.size/\b≠N):=λb hm=>.inr ⟨(bp b (List.mem_cons_of_mem _ hm)).1,(bp b (List.mem_cons_of_mem _ hm)).2,λhe=>(List.nodup_cons.1 h.nd).1 (he▸hm)⟩;have a:∀b,P b->P b\/(B<=b/\b<w.heap.size/\b≠N):=λb O=>.inl O;refine⟨⟨?_,?_,?_⟩,h.g.cap,h.t.cap,h.h.cap⟩
 .exact h.g.sl (cO _) (by rw[M5];exact h.gl.symm) λb O=>aB b (by simp[O])
 .exact h.t.sl (dW _) (by rw[M5];exact h.tl.symm) λb O=>aB b (by simp[O])
 .have aZ:hx.length=s.threads.length:=by have:=h.h.row.1;rw[Nat.mul_one] at this;rw[this];exact h.hl
  refine h.h.sl (nn _ _ aZ λj x bi=>?_) (by rw[M5];exact h.hl.symm) λb O=>aB b (by simp[Nv.1 O]);by_cases aw:j=k
  .subst aw;have:=h.th.symm.trans bi;injection this with this;subst this;refine⟨_,h.Ao,fF.2 ⟨_,_,_,rfl,h.l.cap,h.l.sl ?_ (by simp) λb O=>aB b (by simp[Nv.1 O])⟩⟩;rw[Na];exact D.cS (D.b0 a _ _ h.fr) (D.bx.2 (gz.2 ⟨_,_,_,_,_,_,rfl,h.i.cap,h.IG,h.i.sl (cO _) (by simp) λb O=>aB b (by simp[O]),h.lk.mono a⟩))
  .obtain⟨u,hu,ba⟩:=h.rH j x aw bi;exact⟨u,hu,D.aM a _ _ ba⟩
theorem RO.is(h:RO P B w s k fs f N q O lb lc hx b2 IA ic bC aH F1 F2 a8):q.Is w (λb=>P b\/(B<=b/\b<w.heap.size)) s:=h.LX.mono λb O=>O.imp id λO=>⟨O.1,O.2.1⟩
theorem RO.Le(h:RO P B w s k fs f N q O lb lc hx b2 IA ic bC aH F1 F2 a8){g:Nat}(aR:g∈lb::(F1++(F2++a8)))(U:ab.heap.size=w.heap.size)(aj:∀b,b≠g->ab.heap[b]?=w.heap[b]?)
  (c:∀j,j≠k->aq.threads[j]?=s.threads[j]?) (bq:aq.threads[k]?=some (fs++[b0])) (cv:aq.globals.length=s.globals.length) (cC:aq.table.length=s.table.length) (bw:aq.threads.length=s.threads.length) (E:aq.fault=s.fault) (cr:b0.az=f.az)
  (hG:Own ab 3 1 q.GA q.gn q.gc (aq.globals.map dv) F1) (hT:Own ab 138 2 q.TA q.tn q.tc (aq.table.flatMap ch) F2)
  (bx:Own ab 77 4 (some ⟨lb,0,none⟩) (fs.length+1) lc (b2++[.int .i64 b0.proc,.int .i64 b0.pc,.slice IA b0.ints.length ic,.slice bC b0.az.length aH]) [lb])
  (hI:Own ab 3 1 IA b0.ints.length ic (b0.ints.map dv) a8):RO P B ab aq k fs b0 N q O lb lc hx b2 IA ic bC aH F1 F2 a8:=by
 have n1:=List.nodup_cons.1 h.nd;have n2:=List.nodup_cons.1 n1.2;have am:N≠g:=λhe=>n1.1 (by rw[he];exact List.mem_cons_of_mem _ aR);have a:O≠g:=λhe=>n2.1 (by rw[he];exact aR);have dF:B<=g:=(h.lo g (by simp only[Nk] at aR ⊢;exact .inr (.inr aR))).1;have n:∀b,P b->ab.heap[b]?=w.heap[b]?:=λb O=>aj b (ax (h.pb b O));refine {th:=bq,gl:=h.gl.trans cv.symm,tl:=h.tl.trans cC.symm,hl:=h.hl.trans bw.symm,g:=hG,t:=hT,h:=h.h.ak λb O=>aj b (by rw[Nv.1 O];exact a),m3:=h.m3,rH:=λj cT bi cc=>?_,Ao:=h.Ao,l:=bx,fr:=D.bZ n _ _ h.fr,lk:=by rw[cr];exact h.lk.ak n,IG:=by rw[cr];exact h.IG,i:=hI,o:=?_,nd:=h.nd,lo:=λb O=>by rw[U];exact h.lo b O,pb:=h.pb}
 .obtain⟨u,hu,ba⟩:=h.rH j cT bi ((c j bi).symm.trans cc);exact⟨u,hu,D.aO n _ _ ba⟩
 .have:=(aj N am).trans h.o;unfold SV.val at this ⊢
  rwa [E]
namespace DY
theorem wO{p:Prop}(h:p:=by
 obtain⟨g,bF,-,-,-,-,hs⟩:=h.l.block ad;obtain rfl:lb=g:=by simpa using bF
 have L:=hs (fs.length*4+1) v ad;rw[List.set_append_right _ _ ad,a,Nat.add_sub_cancel_left] at L;exact h.Le (g:=lb) (by simp) (by simp[World.setCell]) (λb O=>aS O) (λj bi=>by simp[Ne.symm bi]) (by simp[ap]) rfl rfl (by simp) rfl rfl
  (h.g.ak λb O=>aS (hn b (by simp[O]))) (h.t.ak λb O=>aS (hn b (by simp[O]))) L (h.i.ak λb O=>aS (hn b (by simp[O])))
 ):p:=h
end DY
open DY in
theorem RO.pc(h:RO P B w s k fs f N q O lb lc hx b2 IA ic bC aH F1 F2 a8)(v:Int) :
  RO P B (w.setCell ⟨lb,fs.length*4+1,none⟩ v) {s with threads:=s.threads.set k (fs++[{f with pc:=v}])} k fs {f with pc:=v} N q O lb lc hx b2 IA ic bC aH F1 F2 a8:=by
 have ap:=(List.getElem?_eq_some_iff.1 h.th).1;have n1:=List.nodup_cons.1 (List.nodup_cons.1 (List.nodup_cons.1 h.nd).2).2;have hn:∀b∈F1++(F2++a8),b≠lb:=λb O he=>n1.1 (he▸O);exact wN
namespace DZ
theorem wO{p:Prop}(h:p:=by
 have ce:k<q.hn:=by rw[h.hl];exact ap
 obtain⟨g,bF,-,hl,hc,J,-⟩:=h.l.block ad;obtain rfl:lb=g:=by simpa using bF
 obtain⟨g2,a7,-,cm,b8,aA,-⟩:=h.h.block ad;obtain rfl:O=g2:=by have:=h.m3.symm.trans a7;simpa using this
 refine⟨hl,cm,J,aA,b8 _ _ h.Ao,hc _ _ ?_,hc _ _ ?_,hc _ _ ?_,hc _ _ ?_,ce⟩<;>rw[<-a,List.getElem?_append_right ad]<;>simp
 ):p:=h
end DZ
open DZ in
theorem RO.top(h:RO P B w s k fs f N q O lb lc hx b2 IA ic bC aH F1 F2 a8):lb<w.heap.size/\O<w/\(∀j,w.frozen? ⟨lb,j,none⟩=false)/\(∀j,w.frozen? ⟨O,j,none⟩=false)/\w.cell? ⟨O,k,none⟩=some (.slice (some ⟨lb,0,none⟩) (fs.length+1) lc)/\w.cell? ⟨lb,fs.length*4,none⟩=some (.int .i64 f.proc)/\w.cell? ⟨lb,fs.length*4+1,none⟩=some (.int .i64 f.pc)/\
  w.cell? ⟨lb,fs.length*4+2,none⟩=some (.slice IA f.ints.length ic)/\w.cell? ⟨lb,fs.length*4+3,none⟩=some (.slice bC f.az.length aH)/\k<q.hn:=by
 have ap:=(List.getElem?_eq_some_iff.1 h.th).1;exact wN
theorem RO.ints(h:RO P B w s k fs f N q O lb lc hx b2 IA ic bC aH F1 F2 a8){j:Nat}(bi:j<f.ints.length):∃T,IA=some ⟨T,0,none⟩/\T<w.heap.size/\w.frozen? ⟨T,j,none⟩=false/\(∃u,w.cell? ⟨T,j,none⟩=some u)/\T≠N/\B<=T/\
  ∀v,RO P B (w.setCell ⟨T,j,none⟩ (.int .i64 v)) {s with threads:=s.threads.set k (fs++[{f with ints:=f.ints.set j v}])} k fs {f with ints:=f.ints.set j v} N q O lb lc hx b2 IA ic bC aH F1 F2 a8:=by
 have ap:=(List.getElem?_eq_some_iff.1 h.th).1;obtain⟨T,dm,rfl,cy,hc,J,hs⟩:=h.i.block ad;have hm:T∈N::O::lb::(F1++(F2++[T])):=by simp
 have n1:=List.nodup_cons.1 h.nd;have hn:∀b∈lb::(F1++F2),b≠T:=by
  have:=eM (A:=lb::(F1++F2)) (B:=[]) (x:=T) (by simpa[Ni] using (List.nodup_cons.1 n1.2).2);simpa using this
 refine⟨T,dm,cy,J j,⟨_,hc j (dv f.ints[j]) (by simp[bi])⟩,λhe=>n1.1 (by rw[he];simp),(h.lo T hm).1,λv=>?_⟩;have L:=hs j (.int .i64 v) ad;refine h.Le (g:=T) (by simp) (by simp[World.setCell]) (λb O=>aS O) (λj bi=>by simp[Ne.symm bi]) (by simp[ap]) rfl rfl (by simp) rfl rfl
  (h.g.ak λb O=>aS (hn b (by simp[O]))) (h.t.ak λb O=>aS (hn b (by simp[O]))) ?_ ?_
 .simp only[List.length_set];exact h.l.ak λb O=>aS (hn b (by simp[Nv.1 O]))
 .simp only[List.length_set];rw[qE];exact L
theorem RO.du(h:RO P B w s k fs f N q O lb lc hx b2 IA ic bC aH F1 F2 a8){j:Nat}(bi:j<q.gn):∃ck,q.GA=some ⟨ck,0,none⟩/\ck<w.heap.size/\w.frozen? ⟨ck,j,none⟩=false/\(∃u,w.cell? ⟨ck,j,none⟩=some u)/\ck≠N/\B<=ck/\
  ∀v,RO P B (w.setCell ⟨ck,j,none⟩ (.int .i64 v)) {s with globals:=s.globals.set j v} k fs f N q O lb lc hx b2 IA ic bC aH F1 F2 a8:=by
 obtain⟨ck,y,rfl,cv,hc,J,hs⟩:=h.g.block ad;have hm:ck∈N::O::lb::([ck]++(F2++a8)):=by simp
 have n1:=List.nodup_cons.1 h.nd;have hn:∀b∈lb::(F2++a8),b≠ck:=by
  have:=eM (A:=[lb]) (B:=F2++a8) (x:=ck) (by simpa using (List.nodup_cons.1 n1.2).2);simpa using this
 have aV:j<s.globals.length:=by rw[<-h.gl];exact bi
 refine⟨ck,y,cv,J j,⟨_,hc j (dv s.globals[j]) (by simp[aV])⟩,λhe=>n1.1 (by rw[he];simp),(h.lo ck hm).1,λv=>?_⟩;have L:=hs j (.int .i64 v) ad;rw[<-show (.int .i64 v:Value)=.int .i64 v from rfl] at L;refine h.Le (g:=ck) (by simp) (by simp[World.setCell]) (λb O=>aS O) (λ_ _=>rfl) h.th (by simp) rfl rfl rfl rfl
  ?_ (h.t.ak λb O=>aS (hn b (by simp[O]))) (h.l.ak λb O=>aS (hn b (by simp[Nv.1 O]))) (h.i.ak λb O=>aS (hn b (by simp[O])))
 show Own _ 3 1 q.GA q.gn q.gc ((s.globals.set j v).map dv) [ck]
 rw[qE];exact L
end
end Go.Proofs.YtnigabjngpnbiabGreat
