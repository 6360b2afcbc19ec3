/- Part 20 of the proof. No condition of its own. -/
import Derived.Test.YtbkhhfajcgkpgaaGreatQ19
namespace Go.Proofs.YtbkhhfajcgkpgaaGreat
open Go.RowKit Go.Proofs.Tryz
set_option maxRecDepth 1000000
set_option maxHeartbeats 25600000
set_option linter.unusedVariables false
variable{F F1 F2:List Nat}{xs:List Value}{m n:Nat}{e:TypeId}{v1 v2:Value}{ac:World}
def h2(e:TypeId)(z n:Nat)(xs:List Value)(w:World)(st:Nat)(v1 v2:Value)(F:List Nat):Prop:=
 (st=0∧v1=undef∧v2=undef∧F=[])∨(st=1∧v2=undef∧∃A,v1=.slice A 0 0∧Own w e z A 0 0 [] F)∨(st=2∧∃A c,v2=.slice A n c∧Own w e z A n c xs F)
theorem h2.aj{e:TypeId}{z n:Nat}{xs:List Value}{w ac:World}{st:Nat}{v1 v2:Value}{F:List Nat}(h:h2 e z n xs w st v1 v2 F)(aj:∀b∈F,ac.heap[b]?=w.heap[b]?):h2 e z n xs ac st v1 v2 F:=by
 rcases h with h|⟨ae,aC,A,aT,a9⟩|⟨ae,A,c,aC,aT⟩
 ·exact .inl h
 ·exact .inr (.inl ⟨ae,aC,A,aT,a9.aj aj⟩)
 ·exact .inr (.inr ⟨ae,A,c,aC,aT.aj aj⟩)
def w2(g t h:Nat)(b:Bool):List Nat:=
 (bif g == 0 then [0] else [])++((bif g == 1 then [3] else [])++((bif t == 0 then [4] else [])++((bif t == 1 && g == 2 then [7] else [])++((bif h == 0 then [8] else [])++((bif h == 1 && t == 2 then [11] else [])++(bif b then [] else [15]))))))
def FL(b:Bool):PT:=bif b then .pick [16] (fun _=>.stop) else .pick [15] (fun _=>.pick [16] (fun _=>.stop))
def iX:Nat→Nat→Nat→Nat→Bool→PT
 | 0,_,_,_,_=>.stop
 | f+1,g,t,h,b=>bif h == 2 then .free 14 (FL b) else .pick (w2 g t h b) fun i=>
   bif i == 0 then iX f 1 t h b else bif i == 3 then iX f 2 t h b else bif i == 4 then iX f g 1 h b else bif i == 7 then iX f g 2 h b else bif i == 8 then iX f g t 1 b else bif i == 11 then iX f g t 2 b else iX f g t h true
structure gM(W:World)(s:ah)(gn tn hn:Nat)(hx:List Value)(w:World)(g t h:Nat)(b:Bool)(bP b3 v10 v11 aG aS aI:Value)(F1 F2 L S:List Nat):Prop where
 ext:Ext W w
 g:h2 3 1 gn (s.globals.map eC) w g b3 v10 F1
 t:h2 83 2 tn (s.table.flatMap cz) w t v11 aG F2
 h:h2 52 1 hn hx w h aS aI L
 o:(b=false∧bP=undef∧S=[])∨(b=true∧∃r,bP=.pointer (some ⟨r,0,none⟩)∧S=[r]∧af w r 30 #[.slice none 0 0,.slice none 0 0,.slice none 0 0,.int .i64 0])
 nd:(F1++(F2++(L++S))).Nodup
 lo:∀k∈F1++(F2++(L++S)),W.heap.size≤k∧k<w.heap.size
theorem pJ(h:(F1++F2).Nodup)(hl:∀k∈F1++F2,k<m):(F1++(m::F2)).Nodup:=
 (List.perm_middle (a:=m) (l₁:=F1) (l₂:=F2)).nodup_iff.2 (List.nodup_cons.2 ⟨fun h=>by have:=hl m h;omega,h⟩)
theorem sw{A B q C:List Nat}(h:(A++(B++C)).Nodup)(hl:∀k∈A++(B++C),k<m)(aL:q.Nodup)(hn:∀k∈q,k∈B∨m≤k):(A++(q++C)).Nodup:=by
 have ae:=List.nodup_append.1 h;have aC:=List.nodup_append.1 ae.2.1;refine List.nodup_append.2 ⟨ae.1,List.nodup_append.2 ⟨aL,aC.2.1,fun x hx y a4 c=>?_⟩,fun x hx y a4 c=>?_⟩
 ·subst c;rcases hn x hx with aT|aT
  ·exact aC.2.2 x aT x a4 rfl
  ·have:=hl x (by simp[a4]);omega
 ·subst c;rcases JZ.1 a4 with a4|a4
  ·rcases hn x a4 with aT|aT
   ·exact ae.2.2 x hx x (by simp[aT]) rfl
   ·have:=hl x (by simp[hx]);omega
  ·exact ae.2.2 x hx x (by simp[a4]) rfl
section
variable {a:Act} {w:World} {K:Act→World→Prop} {Q:Exit→Act→World→Prop} {dst:Option Nat} {ty:TypeId} {p:String} {ag:Array Edge}
theorem DJ(h:K (a.put dst (.slice (some ⟨w.heap.size,0,none⟩) 0 0)) (w.alloc (.cells #[] 3))):Oper.wp prog ⟨dst,.buildSlice 22 0 #[],ty,p,ag,none⟩ a w K Q:=by
 go_simp;exact h
theorem GW(h:K (a.put dst (.slice (some ⟨w.heap.size,0,none⟩) 0 0)) (w.alloc (.cells #[] 83))):Oper.wp prog ⟨dst,.buildSlice 27 0 #[],ty,p,ag,none⟩ a w K Q:=by
 go_simp;exact h
theorem GX(h:K (a.put dst (.slice (some ⟨w.heap.size,0,none⟩) 0 0)) (w.alloc (.cells #[] 52))):Oper.wp prog ⟨dst,.buildSlice 28 0 #[],ty,p,ag,none⟩ a w K Q:=by
 go_simp;exact h
theorem GV(h:K (a.put dst (.pointer (some ⟨w.heap.size,0,none⟩))) (w.alloc (.cells #[.slice none 0 0,.slice none 0 0,.slice none 0 0,.int .i64 0] 30))):Oper.wp prog ⟨dst,.alloc 30,ty,p,ag,none⟩ a w K Q:=by
 go_simp;exact h
end
theorem h2.begin{z:Nat}{w:World}(h:h2 e z n xs w 0 v1 v2 F)(hw:w.alloc (.cells #[] e)=ac):F=[]∧v2=undef∧h2 e z n xs ac 1 (.slice (some ⟨w.heap.size,0,none⟩) 0 0) v2 [w.heap.size]:=by
 rcases h with⟨_,_,aC,aT⟩|⟨h,_⟩|⟨h,_⟩
 ·subst hw;exact⟨aT,aC,.inr (.inl ⟨rfl,aC,_,rfl,⟨World.ownsRow_made w #[] 0 (Kc _) (Kc _) (by simp),rfl⟩⟩)⟩
 ·cases h
 ·cases h
theorem h2.fill{P:Program}{t:TypeId}{z:Value}{size bytes:Nat}{w:World}(h:h2 e size n xs w 1 v1 v2 F){o:Oper}{a:Act}{K:Act→World→Prop}{Q:Exit→Act→World→Prop}(bk:bX P t e z size bytes)(s x:Operand)
  (a8:o.op=.call {callee:=.builtin .append,args:=#[s,x],argTypes:=#[t,t]}) (hs:a.eval s=v1) {A:Kr} {c:Nat} (hx:a.eval x=.slice A n c) (aU:Src w size A n xs) (O:n*bytes≤140737488355328) (C:n≤140737488355328) (d:A=none→n=0)
  (hK:∀v ac Y,h2 e size n xs ac 2 v1 v Y→Fr (fun k=>k∈F) w ac→Y.Nodup→(∀k∈Y,(k∈F∨w.heap.size≤k)∧k<ac.heap.size)→K (a.put o.dst v) ac):o.wp P a w K Q:=by
 rcases h with⟨h,_⟩|⟨_,_,B,bD,f⟩|⟨h,_⟩
 ·cases h
 ·rw[bD] at hs;refine jZ _ bk s x a8 0 _ 0 [] hs f.row A n c xs hx aU (by rw[J8];exact O) ab (Kc _) d fun G ac bE cx H=>?_;simp only[J8,Kg] at bE;obtain⟨I,az,rfl,hc,_⟩:=bs bE;refine hK _ ac (bt I n az) (.inr (.inr ⟨rfl,I,az,rfl,bE,rfl⟩)) (Kn.grown cx fun g aJ=>.inl (by rw[f.eq];simp[aJ])) (gC _ _ _) fun b O=>?_;have aW:(Value.slice I n az).ownBlock=some b:=by simpa using O
  refine⟨?_,(bE.lt b aW).2⟩;rcases H with H|H
  ·rw[H] at aW;exact .inl (by rw[f.eq];simp[aW])
  ·rw[H] at aW;injection aW with aW;right;omega
 ·cases h
section
variable {ops:Array Oper} {Q:Exit→Act→World→Prop} {W:World} {s:ah} {gn tn hn gc tc hc:Nat} {GA TA HA:Kr} {hx:List Value} {ws:Nat} {aa:Value→Value→Value→Value→Value→Value→Value→Act}
 {p0 p3 p4 p7 p8 p11 p15:String} {a0 a3 a4 a7 a8 a11 a15:Array Edge} {t15:TypeId}
theorem gM.c4{L S:List Nat}{k:Nat}:k∈F1++(F2++(L++S))↔k∈F1∨k∈F2∨k∈L∨k∈S:=by simp only[JZ]
theorem World.kC(w:World)(o:Obj):(w.alloc o).heap.size=w.heap.size+1:=by first|(simp;done)|(cases o<;>simp;done)|(unfold World.alloc;simp;done)|rfl
theorem gM.fS{w:World}{M:List Nat}(aD:Fr (fun k=>k∈M) w ac)(aw:∀k∈F,k<w.heap.size)(hd:∀k∈F,k∉M):∀k∈F,ac.heap[k]?=w.heap[k]?:=fun k aj=>aD.block k (aw k aj) (hd k aj)
theorem D0(hG:Sl W (au W) GA gn (s.globals.map D.i))(hT:Sl W (au W) TA tn (s.table.map me))(hH:Src W 1 HA hn hx)(Ih:HA=none→hn=0)(xW:gn≤100000)(DL:tn≤100000)(Gu:hn≤100000)(nH:ws≤W.heap.size)
  (o0:ops[0]?=some ⟨some 7,.buildSlice 22 0 #[],22,p0,a0,none⟩)
  (o3:ops[3]?=some ⟨some 10,.call {callee:=.builtin .append,args:=#[.tmp 7,.tmp 9],argTypes:=#[22,22]},22,p3,a3,none⟩)
  (o4:ops[4]?=some ⟨some 11,.buildSlice 27 0 #[],27,p4,a4,none⟩)
  (o7:ops[7]?=some ⟨some 14,.call {callee:=.builtin .append,args:=#[.tmp 11,.tmp 13],argTypes:=#[27,27]},27,p7,a7,none⟩)
  (o8:ops[8]?=some ⟨some 15,.buildSlice 28 0 #[],28,p8,a8,none⟩)
  (Ik:ops[11]?=some ⟨some 18,.call {callee:=.builtin .append,args:=#[.tmp 15,.tmp 17],argTypes:=#[28,28]},28,p11,a11,none⟩)
  (Il:ops[15]?=some ⟨some 5,.alloc 30,t15,p15,a15,none⟩)
  (q5:∀a b c d e f g x,(aa a b c d e f g).put (some 5) x=aa x b c d e f g) (q7:∀a b c d e f g x,(aa a b c d e f g).put (some 7) x=aa a x c d e f g) (DN:∀a b c d e f g x,(aa a b c d e f g).put (some 10) x=aa a b x d e f g)
  (HN:∀a b c d e f g x,(aa a b c d e f g).put (some 11) x=aa a b c x e f g) (Ix:∀a b c d e f g x,(aa a b c d e f g).put (some 14) x=aa a b c d x f g) (Iy:∀a b c d e f g x,(aa a b c d e f g).put (some 15) x=aa a b c d e x g) (Iz:∀a b c d e f g x,(aa a b c d e f g).put (some 18) x=aa a b c d e f x)
  (e7:∀a b c d e f g,(aa a b c d e f g).eval (.tmp 7)=b) (e9:∀a b c d e f g,(aa a b c d e f g).eval (.tmp 9)=.slice GA gn gc) (H9:∀a b c d e f g,(aa a b c d e f g).eval (.tmp 11)=d) (Ia:∀a b c d e f g,(aa a b c d e f g).eval (.tmp 13)=.slice TA tn tc)
  (Ib:∀a b c d e f g,(aa a b c d e f g).eval (.tmp 15)=f) (Ic:∀a b c d e f g,(aa a b c d e f g).eval (.tmp 17)=.slice HA hn hc)
  (hv:∀b bP b3 v10 v11 aG aS aI F1 F2 L S w,gM W s gn tn hn hx w 2 2 2 b bP b3 v10 v11 aG aS aI F1 F2 L S→c5 prog ops Q (Fr (fun k=>¬k<ws)) [16] (.free 14 (FL b)) (aa bP b3 v10 v11 aG aS aI) w) :
  ∀(n g t h:Nat) (b:Bool),g≤2→t≤2→h≤2→(t=2→g=2)→(h=2→t=2)→7<n+g+t+h+b.toNat→∀bP b3 v10 v11 aG aS aI F1 F2 L S w,gM W s gn tn hn hx w g t h b bP b3 v10 v11 aG aS aI F1 F2 L S→
   c5 prog ops Q (Fr (fun k=>¬k<ws)) [16] (iX n g t h b) (aa bP b3 v10 v11 aG aS aI) w:=by
 intro n
 induction n with
 | zero=>intro g t h b aJ ht aQ _ _ hn;cases b<;>simp at hn<;>omega
 | succ n ao=>
  intro g t h b aJ ht aQ cT E aD bP b3 v10 v11 aG aS aI F1 F2 L S w hS;unfold iX;by_cases aC:h=2
  ·have bH:=E aC;have an:=cT bH;subst aC bH an;exact hv _ _ _ _ _ _ _ _ _ _ _ _ _ hS
  have bx:(h == 2)=false:=by simpa using aC
  rw[bx];have N:=hS.lo;have ag:=hS.ext.size;have aw:∀k∈F1++(F2++(L++S)),k<w.heap.size:=fun k aj=>(N k aj).2;have z:∀o:Obj,Fr (fun k=>¬k<ws) w (w.alloc o):=fun o=>Kn.alloc o;have m:∀(o:Obj) (k:Nat),k<w.heap.size→(w.alloc o).heap[k]?=w.heap[k]?:=fun o k aj=>Below.heap_alloc w o k aj;have U:∀o:Obj,(w.alloc o).heap.size=w.heap.size+1:=fun o=>World.kC w o;intro i al;simp only[w2,JZ] at al;rcases al with al|al|al|al|al|al|al
  ·
   cases u:(g == 0) with
   | false=>rw[u] at al;exact absurd al (by simp)
   | true=>
   rw[u] at al;have cI:g=0:=by simpa using u
   have i0:i=0:=by simpa using al
   subst cI i0;obtain⟨y,_,aU⟩:=hS.g.begin rfl;subst y;refine⟨_,o0,fun K hK=>?_⟩;rw[if_pos (by rfl)];refine DJ (hK _ _ (fun _=>z _) ?_);rw[q7];refine ao 1 t h b ab ht aQ ab E ab _ _ _ _ _ _ _ [w.heap.size] F2 L S _ ⟨hS.ext.alloc _,aU,hS.t.aj fun k aj=>m _ k (aw k (gM.c4.2 (by simp[aj]))),hS.h.aj fun k aj=>m _ k (aw k (gM.c4.2 (by simp[aj]))),?_,?_,?_⟩
   ·rcases hS.o with ae|⟨ae,r,aT,a9,cl⟩
    ·exact .inl ae
    ·exact .inr ⟨ae,r,aT,a9,cl.alloc _⟩
   ·exact pJ (F1:=[]) hS.nd aw
   ·intro k aj;rw[U];simp only[JZ,J6,List.not_mem_nil,or_false] at aj;rcases aj with aj|aj
    ·omega
    ·have:=N k (by simpa using aj);omega
  ·
   cases u:(g == 1) with
   | false=>rw[u] at al;exact absurd al (by simp)
   | true=>
   rw[u] at al;have b7:g=1:=by simpa using u
   subst b7;have i0:i=3:=by simpa using al
   subst i0;refine⟨_,o3,fun K hK=>?_⟩;rw[if_pos (by rfl)];refine h2.fill hS.g dm (.tmp 7) (.tmp 9) rfl (e7 _ _ _ _ _ _ _) (e9 _ _ _ _ _ _ _) (by have:=Src.nP (hG.on (Fr.ext hS.ext)).ints (ib _) (pQ _) ab;rwa [w8] at this) ab ab (fun h=>by subst h;exact hG.none_) (fun v ac Y aU H aR T=>?_);have b4:=H.size;have l:∀k∈F1,W.heap.size≤k:=fun k aj=>(N k (gM.c4.2 (by simp[aj]))).1;have G:Ext W ac:=Fr.low (M:=fun k=>k∈F1) (Fr.trans (Fr.mono hS.ext fun _ h=>h.elim) H) l;refine hK _ _ (fun _=>H.mono fun k aj=>by have:=l k aj;omega) ?_;rw[DN];have j:∀k,k∈F1++(F2++(L++S))→k∉F1→ac.heap[k]?=w.heap[k]?:=fun k aj hn=>H.block k (aw k aj) hn;have n1:=List.nodup_append.1 hS.nd;have n2:=List.nodup_append.1 n1.2.1;have n3:=List.nodup_append.1 n2.2.1;refine ao 2 t h b ab ht aQ ab E ab _ _ _ _ _ _ _ Y F2 L S _ ⟨G,aU,hS.t.aj (fun k aj=>j k (gM.c4.2 (by simp[aj])) (fun ae=>n1.2.2 k ae k (by simp[aj]) rfl)),hS.h.aj (fun k aj=>j k (gM.c4.2 (by simp[aj])) (fun ae=>n1.2.2 k ae k (by simp[aj]) rfl)),?_,?_,?_⟩
   ·rcases hS.o with ae|⟨ae,r,aT,a9,cl⟩
    ·exact .inl ae
    ·have q:∀k∈S,k∉F1:=fun k aj=>fun ae=>n1.2.2 k ae k (by simp[aj]) rfl;exact .inr ⟨ae,r,aT,a9,show _=_ from (j r (gM.c4.2 (by simp[a9])) (q r (by simp[a9]))).trans cl⟩
   ·exact sw (A:=[]) hS.nd aw aR fun k aj=>(T k aj).1
   ·intro k aj;rcases gM.c4.1 aj with aj|aj|aj|aj
    ·have:=T k aj;have:W.heap.size≤k:=by rcases this.1 with ae|ae;exact l k ae;omega
     omega
    ·have:=N k (gM.c4.2 (by simp[aj]));omega
    ·have:=N k (gM.c4.2 (by simp[aj]));omega
    ·have:=N k (gM.c4.2 (by simp[aj]));omega
  ·
   cases u:(t == 0) with
   | false=>rw[u] at al;exact absurd al (by simp)
   | true=>
   rw[u] at al;have cI:t=0:=by simpa using u
   have i0:i=4:=by simpa using al
   subst cI i0;obtain⟨y,_,aU⟩:=hS.t.begin rfl;subst y;refine⟨_,o4,fun K hK=>?_⟩;rw[if_pos (by rfl)];refine GW (hK _ _ (fun _=>z _) ?_);rw[HN];refine ao g 1 h b aJ ab aQ ab (fun h=>ab) ab _ _ _ _ _ _ _ F1 [w.heap.size] L S _ ⟨hS.ext.alloc _,hS.g.aj fun k aj=>m _ k (aw k (gM.c4.2 (by simp[aj]))),aU,hS.h.aj fun k aj=>m _ k (aw k (gM.c4.2 (by simp[aj]))),?_,?_,?_⟩
   ·rcases hS.o with ae|⟨ae,r,aT,a9,cl⟩
    ·exact .inl ae
    ·exact .inr ⟨ae,r,aT,a9,cl.alloc _⟩
   ·exact pJ (F1:=F1) hS.nd aw
   ·intro k aj;rw[U];rcases gM.c4.1 aj with aj|aj|aj|aj
    ·have:=N k (gM.c4.2 (by simp[aj]));omega
    ·have:=Kh.1 aj;omega
    ·have:=N k (gM.c4.2 (by simp[aj]));omega
    ·have:=N k (gM.c4.2 (by simp[aj]));omega
  ·
   cases u:(t == 1 && g == 2) with
   | false=>rw[u] at al;exact absurd al (by simp)
   | true=>
   rw[u] at al;simp only[J2,beq_iff_eq] at u;obtain⟨t1,g2⟩:=u;subst t1 g2;have i0:i=7:=by simpa using al
   subst i0;refine⟨_,o7,fun K hK=>?_⟩;rw[if_pos (by rfl)];refine h2.fill hS.t oc (.tmp 11) (.tmp 13) rfl (H9 _ _ _ _ _ _ _) (Ia _ _ _ _ _ _ _) (Src.nP (hT.on (Fr.ext hS.ext)).holds (eQ _) (m2 _) ab) ab ab (fun h=>by subst h;exact hT.none_) (fun v ac Y aU H aR T=>?_);have b4:=H.size;have l:∀k∈F2,W.heap.size≤k:=fun k aj=>(N k (gM.c4.2 (by simp[aj]))).1;have G:Ext W ac:=Fr.low (M:=fun k=>k∈F2) (Fr.trans (Fr.mono hS.ext fun _ h=>h.elim) H) l;refine hK _ _ (fun _=>H.mono fun k aj=>by have:=l k aj;omega) ?_;rw[Ix];have j:∀k,k∈F1++(F2++(L++S))→k∉F2→ac.heap[k]?=w.heap[k]?:=fun k aj hn=>H.block k (aw k aj) hn;have n1:=List.nodup_append.1 hS.nd;have n2:=List.nodup_append.1 n1.2.1;have n3:=List.nodup_append.1 n2.2.1;refine ao 2 2 h b aJ ab aQ ab ab ab _ _ _ _ _ _ _ F1 Y L S _ ⟨G,hS.g.aj (fun k aj=>j k (gM.c4.2 (by simp[aj])) (fun ae=>n1.2.2 k aj k (by simp[ae]) rfl)),aU,hS.h.aj (fun k aj=>j k (gM.c4.2 (by simp[aj])) (fun ae=>n2.2.2 k ae k (by simp[aj]) rfl)),?_,?_,?_⟩
   ·rcases hS.o with ae|⟨ae,r,aT,a9,cl⟩
    ·exact .inl ae
    ·have q:∀k∈S,k∉F2:=fun k aj=>fun ae=>n2.2.2 k ae k (by simp[aj]) rfl;exact .inr ⟨ae,r,aT,a9,show _=_ from (j r (gM.c4.2 (by simp[a9])) (q r (by simp[a9]))).trans cl⟩
   ·exact sw (A:=F1) hS.nd aw aR fun k aj=>(T k aj).1
   ·intro k aj;rcases gM.c4.1 aj with aj|aj|aj|aj
    ·have:=N k (gM.c4.2 (by simp[aj]));omega
    ·have:=T k aj;have:W.heap.size≤k:=by rcases this.1 with ae|ae;exact l k ae;omega
     omega
    ·have:=N k (gM.c4.2 (by simp[aj]));omega
    ·have:=N k (gM.c4.2 (by simp[aj]));omega
  ·
   cases u:(h == 0) with
   | false=>rw[u] at al;exact absurd al (by simp)
   | true=>
   rw[u] at al;have cI:h=0:=by simpa using u
   have i0:i=8:=by simpa using al
   subst cI i0;obtain⟨y,_,aU⟩:=hS.h.begin rfl;subst y;refine⟨_,o8,fun K hK=>?_⟩;rw[if_pos (by rfl)];refine GX (hK _ _ (fun _=>z _) ?_);rw[Iy];refine ao g t 1 b aJ ht ab cT ab ab _ _ _ _ _ _ _ F1 F2 [w.heap.size] S _ ⟨hS.ext.alloc _,hS.g.aj fun k aj=>m _ k (aw k (gM.c4.2 (by simp[aj]))),hS.t.aj fun k aj=>m _ k (aw k (gM.c4.2 (by simp[aj]))),aU,?_,?_,?_⟩
   ·rcases hS.o with ae|⟨ae,r,aT,a9,cl⟩
    ·exact .inl ae
    ·exact .inr ⟨ae,r,aT,a9,cl.alloc _⟩
   ·have:=pJ (F1:=F1++F2) (F2:=S) (by simpa using hS.nd) (by simpa using aw);simpa using this
   ·intro k aj;rw[U];rcases gM.c4.1 aj with aj|aj|aj|aj
    ·have:=N k (gM.c4.2 (by simp[aj]));omega
    ·have:=N k (gM.c4.2 (by simp[aj]));omega
    ·have:=Kh.1 aj;omega
    ·have:=N k (gM.c4.2 (by simp[aj]));omega
  ·
   cases u:(h == 1 && t == 2) with
   | false=>rw[u] at al;exact absurd al (by simp)
   | true=>
   rw[u] at al;simp only[J2,beq_iff_eq] at u;obtain⟨ae,t2⟩:=u;have g2:=cT t2;subst ae t2 g2;have i0:i=11:=by simpa using al
   subst i0;refine⟨_,Ik,fun K hK=>?_⟩;rw[if_pos (by rfl)];refine h2.fill hS.h Ci (.tmp 15) (.tmp 17) rfl (Ib _ _ _ _ _ _ _) (Ic _ _ _ _ _ _ _) (hH.on (Fr.ext hS.ext)) ab ab Ih (fun v ac Y aU H aR T=>?_);have b4:=H.size;have l:∀k∈L,W.heap.size≤k:=fun k aj=>(N k (gM.c4.2 (by simp[aj]))).1;have G:Ext W ac:=Fr.low (M:=fun k=>k∈L) (Fr.trans (Fr.mono hS.ext fun _ h=>h.elim) H) l;refine hK _ _ (fun _=>H.mono fun k aj=>by have:=l k aj;omega) ?_;rw[Iz];have j:∀k,k∈F1++(F2++(L++S))→k∉L→ac.heap[k]?=w.heap[k]?:=fun k aj hn=>H.block k (aw k aj) hn;have n1:=List.nodup_append.1 hS.nd;have n2:=List.nodup_append.1 n1.2.1;have n3:=List.nodup_append.1 n2.2.1;refine ao 2 2 2 b aJ ht ab ab ab ab _ _ _ _ _ _ _ F1 F2 Y S _ ⟨G,hS.g.aj (fun k aj=>j k (gM.c4.2 (by simp[aj])) (fun ae=>n1.2.2 k aj k (by simp[ae]) rfl)),hS.t.aj (fun k aj=>j k (gM.c4.2 (by simp[aj])) (fun ae=>n2.2.2 k aj k (by simp[ae]) rfl)),aU,?_,?_,?_⟩
   ·rcases hS.o with ae|⟨ae,r,aT,a9,cl⟩
    ·exact .inl ae
    ·have q:∀k∈S,k∉L:=fun k aj=>fun ae=>n3.2.2 k ae k aj rfl;exact .inr ⟨ae,r,aT,a9,show _=_ from (j r (gM.c4.2 (by simp[a9])) (q r (by simp[a9]))).trans cl⟩
   ·have:=sw (A:=F1++F2) (B:=L) (C:=S) (by simpa using hS.nd) (by simpa using aw) aR (fun k aj=>(T k aj).1);simpa using this
   ·intro k aj;rcases gM.c4.1 aj with aj|aj|aj|aj
    ·have:=N k (gM.c4.2 (by simp[aj]));omega
    ·have:=N k (gM.c4.2 (by simp[aj]));omega
    ·have:=T k aj;have:W.heap.size≤k:=by rcases this.1 with ae|ae;exact l k ae;omega
     omega
    ·have:=N k (gM.c4.2 (by simp[aj]));omega
  ·
   cases b with
   | true=>simp at al
   | false=>
   have i0:i=15:=by simpa using al
   subst i0;refine⟨_,Il,fun K hK=>?_⟩;rw[if_pos (by rfl)];refine GV (hK _ _ (fun _=>z _) ?_);rw[q5];have a9:S=[]:=by
    rcases hS.o with⟨_,_,h⟩|⟨h,_⟩
    ·exact h
    ·cases h
   subst a9;refine ao g t h true aJ ht aQ cT E (by simp at aD ⊢;omega) _ _ _ _ _ _ _ F1 F2 L [w.heap.size] _ ⟨hS.ext.alloc _,hS.g.aj fun k aj=>m _ k (aw k (gM.c4.2 (by simp[aj]))),hS.t.aj fun k aj=>m _ k (aw k (gM.c4.2 (by simp[aj]))),hS.h.aj fun k aj=>m _ k (aw k (gM.c4.2 (by simp[aj]))),.inr ⟨rfl,_,rfl,rfl,Ko⟩,?_,?_⟩
   ·have:=pJ (F1:=F1++(F2++L)) (F2:=[]) (by simpa using hS.nd) (by simpa using aw);simpa using this
   ·intro k aj;rw[U];rcases gM.c4.1 aj with aj|aj|aj|aj
    ·have:=N k (gM.c4.2 (by simp[aj]));omega
    ·have:=N k (gM.c4.2 (by simp[aj]));omega
    ·have:=N k (gM.c4.2 (by simp[aj]));omega
    ·have:=Kh.1 aj;omega
end
def xi(a b:Nat):List Nat:=(bif a == 0 then [0] else bif a == 1 then [3] else bif a == 2 then [6] else bif a == 3 then [8] else [])++(bif b == 0 then [18] else bif b == 1 then [20] else bif b == 2 then [22] else [])
def gA:Nat→Nat→Nat→PT
 | 0,_,_=>.stop
 | n+1,a,b=>bif a == 4 && b == 3 then .free 23 (.pick [24] fun _=>.stop) else .pick (xi a b) fun i=>
   bif i == 0 then gA n 1 b else bif i == 3 then gA n 2 b else bif i == 6 then .free 7 (gA n 3 b) else bif i == 8 then gA n 4 b else bif i == 18 then .free 19 (gA n a 1) else bif i == 20 then .free 21 (gA n a 2) else gA n a 3
abbrev vG(W w:World)(E:List Nat):Nat→Prop:=fun k=>W.heap.size≤k∧k<w.heap.size∧k∉E
structure He(W:World)(gs:List Int)(gn m:Nat)(w:World)(a:Nat)(r v6 bK v10 v11:Value)(E:List Nat):Prop where
 g:(a=0∧E=[]∧h2 3 1 gn (gs.map eC) w 0 r v6 [])∨(a=1∧h2 3 1 gn (gs.map eC) w 1 r v6 E)∨(2≤a∧E=[]∧∃F,h2 3 1 gn (gs.map eC) w 2 r v6 F∧∀k∈F,W.heap.size≤k∧k<w.heap.size)
 o:3≤a→v10=.int .i64 (m:Int)
 t:4≤a→∃A,v11=.slice A m m∧Sl w (vG W w []) A m ((List.replicate m ⟨0,0⟩).map me)
 e:∀k∈E,W.heap.size≤k∧k<w.heap.size
structure G1(W:World)(mi:Int)(L:Nat)(w:World)(b:Nat)(m q s t y:Value)(E:List Nat):Prop where
 i:1≤b→∃A,m=.slice A L L∧Sl w (vG W w E) A L ((List.replicate L 0).map D.i)∧q=.agg #[.int .i64 mi,.int .i64 0,.slice A L L,.slice none 0 0]
 f:2≤b→∃A,s=.slice A 1 1∧Sl w (vG W w E) A 1 ([(⟨mi,0,List.replicate L 0,[]⟩:an)].map hh)∧t=.agg #[.slice A 1 1]
 h:3≤b→∃A,y=.slice A 1 1∧Sl w (vG W w E) A 1 ([[(⟨mi,0,List.replicate L 0,[]⟩:an)]].map mg)
theorem He.aj{W:World}{gs:List Int}{gn m a:Nat}{w ac:World}{r v6 bK v10 v11:Value}{E:List Nat}(h:He W gs gn m w a r v6 bK v10 v11 E)(aF:Ext w ac):He W gs gn m ac a r v6 bK v10 v11 E:=by
 have aj:∀k,k<w.heap.size→ac.heap[k]?=w.heap[k]?:=fun k aj=>aF.block k aj fun h=>h;have hs:=aF.size;refine⟨?_,h.o,fun aV=>?_,fun k aj=>⟨(h.e k aj).1,by have:=(h.e k aj).2;omega⟩⟩
 ·rcases h.g with⟨ae,aC,aT⟩|⟨ae,aC⟩|⟨ae,aC,F,aT,a9⟩
  ·exact .inl ⟨ae,aC,aT.aj fun k aj=>by simp at aj⟩
  ·exact .inr (.inl ⟨ae,aC.aj fun b O=>aj b (h.e b O).2⟩)
  ·exact .inr (.inr ⟨ae,aC,F,aT.aj fun b O=>aj b (a9 b O).2,fun k aj=>⟨(a9 k aj).1,by have:=(a9 k aj).2;omega⟩⟩)
 ·obtain⟨A,ae,aC⟩:=h.t aV;exact⟨A,ae,(aC.aj fun b O=>aj b O.2.1).mono fun b O=>⟨O.1,by have:=O.2.1;omega,O.2.2⟩⟩
theorem G1.aj{W:World}{mi:Int}{L b:Nat}{w ac:World}{m q s t y:Value}{E a:List Nat}(h:G1 W mi L w b m q s t y E)(hs:w.heap.size≤ac.heap.size)(aj:∀k,W.heap.size≤k→k<w.heap.size→k∉E→ac.heap[k]?=w.heap[k]?∧k∉a):G1 W mi L ac b m q s t y a:=by
 have cd:∀b,vG W w E b→ac.heap[b]?=w.heap[b]?:=fun b O=>(aj b O.1 O.2.1 O.2.2).1;have hm:∀b,vG W w E b→vG W ac a b:=fun b O=>⟨O.1,by have:=O.2.1;omega,(aj b O.1 O.2.1 O.2.2).2⟩
 refine⟨fun O=>?_,fun O=>?_,fun O=>?_⟩
 ·obtain⟨A,ae,aC,aT⟩:=h.i O;exact⟨A,ae,(aC.aj cd).mono hm,aT⟩
 ·obtain⟨A,ae,aC,aT⟩:=h.f O;exact⟨A,ae,(aC.aj cd).mono hm,aT⟩
 ·obtain⟨A,ae,aC⟩:=h.h O;exact⟨A,ae,(aC.aj cd).mono hm⟩
theorem Er{ops:Array Oper}{Q:Exit→Act→World→Prop}{W:World}{gs:List Int}{gn gc mn mc L ws:Nat}{GA MA:Kr}{mi:Int}{X:List bA}{br Z ax aE aD aa ah ak am an ap aq ar:Value}{a0 a3 a6 a7 a8 a18 a19 a20 a21 a22:Array Edge}{p0 p3 p6 p7 p8 p18 p19 p20 p21 p22:String}
  (hG:Sl W (au W) GA gn (gs.map D.i)) (xW:gn≤100000) (hM:cC (EF hg) 3 W W.heap.size MA mn X) (hX:qu X) (bR:L≤100000) (nH:ws≤W.heap.size)
  (o0:ops[0]?=some ⟨some 3,.buildSlice 22 0 #[],22,p0,a0,none⟩)
  (o3:ops[3]?=some ⟨some 6,.call {callee:=.builtin .append,args:=#[.tmp 3,.tmp 5],argTypes:=#[22,22]},22,p3,a3,none⟩)
  (o6:ops[6]?=some ⟨some 9,.call {callee:=.value (.func 103),args:=#[.tmp 8],argTypes:=#[23]},22,p6,a6,none⟩)
  (o7:ops[7]?=some ⟨some 10,.call {callee:=.builtin .len,args:=#[.tmp 9],argTypes:=#[22]},3,p7,a7,none⟩)
  (o8:ops[8]?=some ⟨some 11,.makeSlice 27 (.tmp 10) (.tmp 10),27,p8,a8,none⟩)
  (Im:ops[18]?=some ⟨some 21,.makeSlice 22 (.tmp 20) (.tmp 20),22,p18,a18,none⟩)
  (Io:ops[19]?=some ⟨some 22,.build 100 #[(0,.tmp 13),(2,.tmp 21)],100,p19,a19,none⟩)
  (Ip:ops[20]?=some ⟨some 23,.buildSlice 50 1 #[(0,.tmp 22)],50,p20,a20,none⟩)
  (Iq:ops[21]?=some ⟨some 24,.build 52 #[(0,.tmp 23)],52,p21,a21,none⟩)
  (Ir:ops[22]?=some ⟨some 25,.buildSlice 28 1 #[(0,.tmp 24)],28,p22,a22,none⟩)
  (hv:∀r v6 bK v10 v11 m q s t y E w,Ext W w→He W gs gn (own X).length w 4 r v6 bK v10 v11 E→G1 W mi L w 3 m q s t y E→c5 prog ops Q (Fr (fun k=>¬k<ws)) [24] (.free 23 (.pick [24] fun _=>.stop)) ⟨#[br,Z,ax,r,aE,.slice GA gn gc,v6,aD,.slice MA mn mc,bK,v10,v11,aa,.int .i64 mi,ah,ak,am,an,ap,aq,.int .i64 (L:Int),m,q,s,t,y,ar],[]⟩ w) :
  ∀(n a b:Nat),a≤4→b≤3→8≤n+a+b→∀r v6 bK v10 v11 m q s t y E w,Ext W w→He W gs gn (own X).length w a r v6 bK v10 v11 E→G1 W mi L w b m q s t y E→
   c5 prog ops Q (Fr (fun k=>¬k<ws)) [24] (gA n a b) ⟨#[br,Z,ax,r,aE,.slice GA gn gc,v6,aD,.slice MA mn mc,bK,v10,v11,aa,.int .i64 mi,ah,ak,am,an,ap,aq,.int .i64 (L:Int),m,q,s,t,y,ar],[]⟩ w:=by
 intro n
 induction n with
 | zero=>intro a b aV O hn;omega
 | succ n ao=>
  intro a b aV O hn r v6 bK v10 v11 m q s t y E w aF bk aL;unfold gA
  cases ai:(a == 4 && b == 3) with
  | true=>
   simp only[J2,beq_iff_eq] at ai;obtain⟨rfl,rfl⟩:=ai
   exact hv _ _ _ _ _ _ _ _ _ _ _ _ aF bk aL
  | false=>
  have ag:=aF.size;have z:∀o:Obj,Fr (fun k=>¬k<ws) w (w.alloc o):=fun o=>Kn.alloc o;have U:∀o:Obj,(w.alloc o).heap.size=w.heap.size+1:=fun o=>World.kC w o;have N:∀o:Obj,Ext W (w.alloc o):=fun o=>aF.alloc o;have J:∀o:Obj,Ext w (w.alloc o):=fun o=>Kn.alloc o;have aG:∀o:Obj,G1 W mi L (w.alloc o) b m q s t y E:=fun o=>aL.aj (by rw[U];omega) fun k _ aj hn=>⟨Below.heap_alloc w o k aj,hn⟩
  intro i al;simp only[xi,JZ] at al;rcases al with al|al
  ·have cl:a=0∨a=1∨a=2∨a=3∨a=4:=ab;rcases cl with rfl|rfl|rfl|rfl|rfl
   ·
    have i0:i=0:=by simpa using al
    subst i0;obtain⟨R,aU⟩:E=[]∧h2 3 1 gn (gs.map eC) w 0 r v6 []:=by
     rcases bk.g with⟨_,aC,aT⟩|⟨ae,_⟩|⟨ae,_⟩
     ·exact⟨aC,aT⟩
     ·omega
     ·omega
    subst R;obtain⟨_,_,bx⟩:=aU.begin rfl;refine⟨_,o0,fun K hK=>?_⟩;rw[if_pos (by rfl)];refine DJ (hK _ _ (fun _=>z _) ?_)
    try simp only[PU]
    refine ao 1 b ab O ab _ _ _ _ _ _ _ _ _ _ [w.heap.size] _ (N _) ⟨.inr (.inl ⟨rfl,bx⟩),fun h=>ab,fun h=>ab,fun k aj=>?_⟩ (aL.aj (by rw[U];omega) fun k _ aj hn=>⟨Below.heap_alloc w _ k aj,fun h=>by have:=Kh.1 h;omega⟩);rw[U];have:=Kh.1 aj;omega
   ·
    have i0:i=3:=by simpa using al
    subst i0;have aU:h2 3 1 gn (gs.map eC) w 1 r v6 E:=by
     rcases bk.g with⟨ae,_⟩|⟨_,aT⟩|⟨ae,_⟩
     ·omega
     ·exact aT
     ·omega
    refine⟨_,o3,fun K hK=>?_⟩;rw[if_pos (by rfl)];refine h2.fill aU dm (.tmp 3) (.tmp 5) rfl rfl rfl (by have:=Src.nP (hG.on (Fr.ext aF)).ints (ib _) (pQ _) ab;rwa [w8] at this) ab ab (fun h=>by subst h;exact hG.none_) (fun v ac Y bx H aR T=>?_);have b4:=H.size;have l:∀k∈E,W.heap.size≤k:=fun k aj=>(bk.e k aj).1;have G:Ext W ac:=Fr.low (M:=fun k=>k∈E) (Fr.trans (Fr.mono aF fun _ h=>h.elim) H) l;refine hK _ _ (fun _=>H.mono fun k aj=>by have:=l k aj;omega) ?_
    try simp only[PU]
    refine ao 2 b ab O ab _ _ _ _ _ _ _ _ _ _ [] _ G ⟨.inr (.inr ⟨ab,rfl,Y,bx,fun k aj=>?_⟩),fun h=>ab,fun h=>ab,fun k aj=>by simp at aj⟩ (aL.aj b4 fun k _ aj hn=>⟨H.block k aj hn,by simp⟩);have ae:=T k aj;have:W.heap.size≤k:=by rcases ae.1 with aC|aC;exact l k aC;omega
    omega
   ·
    have i0:i=6:=by simpa using al
    subst i0;refine⟨_,o6,fun K hK=>?_⟩;rw[if_pos (by rfl)];go_simp;refine(lP MA mn mc X w (hM.cO (Fr.ext aF) (Fr.ext aF).size) hX).mono ?_;rintro e ac ⟨I,az,rfl,hc,hs,aW⟩;have d:Ext w ac:=Fr.of aW;refine hK _ _ (fun _=>Fr.mono d fun _ h=>h.elim) ?_
    try simp only
    show c5 _ _ _ _ _ (.free 7 (gA n 3 b)) _ _
    refine k2 (v:=?_) o7 (by rfl) (fun V=>?_) ?_;rotate_left
    ·(go_simp<;>with_reducible rfl)
    try simp only[PU]
    have ay:=bk.aj d;have aJ:2≤2∧E=[]∧∃F,h2 3 1 gn (gs.map eC) ac 2 r v6 F∧∀k∈F,W.heap.size≤k∧k<ac.heap.size:=by
     rcases ay.g with⟨ae,_⟩|⟨ae,_⟩|aT
     ·omega
     ·omega
     ·exact aT
    exact ao 3 b ab O ab _ _ _ _ _ _ _ _ _ _ E _ (aF.trans d) ⟨.inr (.inr ⟨ab,aJ.2⟩),fun _=>rfl,fun h=>ab,ay.e⟩ (aL.aj d.size fun k _ aj hn=>⟨d.block k aj fun h=>h,hn⟩)
   ·
    have i0:i=8:=by simpa using al
    subst i0;have c:=bk.o ab;subst c;have hm:=dC hX;have d3:=fun W=>run_mk (P:=prog) oc .i64 .i64 (own X).length ab ab W;have S:=C6 (e:=83) (f:=cz) (x:=⟨0,0⟩) (zc:=#[.int .i64 0,.int .i64 0]) (sz:=2) rfl rfl ab (own X).length ab (w:=w) (base:=w.heap.size) (JQ _);refine⟨_,o8,fun K hK=>?_⟩;rw[if_pos (by rfl)];have bj:=ad S;clear S;go_simp;refine hK _ _ (fun _=>z _) ?_
    try simp only
    have ay:=bk.aj (J (.cells (madeCells #[.int .i64 0,.int .i64 0] ((own X).length*2)) 83));have aJ:2≤3∧E=[]∧∃F,h2 3 1 gn (gs.map eC) (w.alloc (.cells (madeCells #[.int .i64 0,.int .i64 0] ((own X).length*2)) 83)) 2 r v6 F∧∀k∈F,W.heap.size≤k∧k<(w.alloc (.cells (madeCells #[.int .i64 0,.int .i64 0] ((own X).length*2)) 83)).heap.size:=by
     rcases ay.g with⟨ae,_⟩|⟨ae,_⟩|aT
     ·omega
     ·omega
     ·exact aT
    refine ao 4 b ab O ab _ _ _ _ _ _ _ _ _ _ E _ (N _) ⟨.inr (.inr ⟨ab,aJ.2⟩),fun _=>rfl,fun _=>⟨_,rfl,?_⟩,ay.e⟩ (aG _);exact Sl.pP bj.o (dD _) (by simp) fun g _ ae aC=>⟨ab,aC,by simp⟩
   ·simp at al
  ·have cl:b=0∨b=1∨b=2∨b=3:=ab;rcases cl with rfl|rfl|rfl|rfl
   ·
    have i0:i=18:=by simpa using al
    subst i0;have d3:=fun W=>run_mk (P:=prog) dm .i64 .i64 L ab ab W;have S:=C6 (e:=3) (f:=b2) (x:=0) (zc:=#[.int .i64 0]) (sz:=1) rfl rfl ab L ab (w:=w) (base:=w.heap.size) (JQ _);rw[w8,Nat.mul_one] at S;have bj:=ad S;clear S;refine⟨_,Im,fun K hK=>?_⟩;rw[if_pos (by rfl)];go_simp;refine hK _ _ (fun _=>z _) ?_
    try simp only
    show c5 _ _ _ _ _ (.free 19 (gA n a 1)) _ _
    refine k2 (v:=?_) Io (by rfl) (fun V=>?_) ?_;rotate_left
    ·(go_simp<;>with_reducible rfl)
    try simp only[PU]
    refine ao a 1 aV ab ab _ _ _ _ _ _ _ _ _ _ E _ (N _) (bk.aj (J _)) ⟨fun _=>⟨_,rfl,?_,rfl⟩,fun h=>ab,fun h=>ab⟩;exact Sl.pP bj.o (cy _) (by simp) fun g _ ae aC=>⟨ab,aC,fun h=>by have:=(bk.e g h).2;omega⟩
   ·
    have i0:i=20:=by simpa using al
    subst i0;obtain⟨A,av,hs,aw⟩:=aL.i ab;subst av aw;refine⟨_,Ip,fun K hK=>?_⟩;rw[if_pos (by rfl)];go_simp;refine hK _ _ (fun _=>z _) ?_
    try simp only
    show c5 _ _ _ _ _ (.free 21 (gA n a 2)) _ _
    refine k2 (v:=?_) Iq (by rfl) (fun V=>?_) ?_;rotate_left
    ·(go_simp<;>with_reducible rfl)
    try simp only[PU]
    have u:=aG (.cells #[.int .i64 mi,.int .i64 0,.slice A L L,.slice none 0 0] 100);obtain⟨A2,B,bz,_⟩:=u.i ab;injection B with B _ _;subst B;have aX:=af.new w 100 #[.int .i64 mi,.int .i64 0,.slice A L L,.slice none 0 0];refine ao a 2 aV ab ab _ _ _ _ _ _ _ _ _ _ E _ (N _) (bk.aj (J _)) ⟨fun _=>u.i ab,fun _=>⟨_,rfl,⟨rfl,fun _=>⟨w.heap.size,0,_,rfl,⟨ag,by rw[U];omega,fun h=>by have:=(bk.e _ h).2;omega⟩,D.bj.2 (gO.2 ⟨A,L,L,none,0,0,rfl,JQ _,JQ _,bz,Sl.bG _⟩),fun j v bc=>?_⟩⟩,rfl⟩,fun h=>ab⟩;rw[J8,aX.cell];simpa using bc
   ·
    have i0:i=22:=by simpa using al
    subst i0;obtain⟨A,aA,hs,aB⟩:=aL.f ab;subst aA aB;refine⟨_,Ir,fun K hK=>?_⟩;rw[if_pos (by rfl)];go_simp;refine hK _ _ (fun _=>z _) ?_
    try simp only
    have u:=aG (.cells #[.slice A 1 1] 52);obtain⟨A2,C,bz,_⟩:=u.f ab;injection C with C _ _;subst C;have aX:=af.new w 52 #[.slice A 1 1];refine ao a 3 aV ab ab _ _ _ _ _ _ _ _ _ _ E _ (N _) (bk.aj (J _)) ⟨fun _=>u.i ab,fun _=>u.f ab,fun _=>⟨_,rfl,rfl,fun _=>⟨w.heap.size,0,_,rfl,⟨ag,by rw[U];omega,fun h=>by have:=(bk.e _ h).2;omega⟩,D.bj.2 (e5.2 ⟨A,1,1,rfl,JQ _,bz⟩),fun j v bc=>?_⟩⟩⟩;rw[J8,aX.cell];simpa using bc
   ·simp at al
end Go.Proofs.YtbkhhfajcgkpgaaGreat
