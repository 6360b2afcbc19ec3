/- Part 9 of the proof. No condition of its own. -/
import Derived.Test.YtajlmkkidmjgoaaGreatDoorQ02
namespace Go.Proofs.YtajlmkkidmjgoaaGreatDoor
open Go.RowKit Go.Proofs.Tryz
set_option maxRecDepth 1000000
set_option maxHeartbeats 25600000
set_option linter.unusedVariables false
variable{s:ByteArray}{d:Int}{acc:List Tok}{l:List UInt8}{b cap f k n o:Nat}{c x:UInt8}{p:UInt8->Bool}{ab w:World}
theorem lC(c:UInt8)(w:World):Calls prog 79 #[.int .u8 c.toNat] w λe ab=>e=.returned (.bool (bO c))/\w=ab:=by
 go_enter func79,ntmps79;go_wp2
 all_goals
  go_ret;refine⟨ret_bool ?_,rfl⟩;rw[Bool.eq_iff_iff];simp[bO];omega
theorem kz(c:UInt8)(w:World):Calls prog 80 #[.int .u8 c.toNat] w λe ab=>e=.returned (.bool (bp c))/\w=ab:=by
 go_enter func80,ntmps80;go_wp2
 all_goals
  go_ret;refine⟨ret_bool ?_,rfl⟩;rw[Bool.eq_iff_iff];simp[bp];omega
theorem rK{x:ByteArray}(h:x≠s):(x.toList == s.toList)=false:=by
 refine beq_eq_false_iff_ne.2 λe=>h ?_;rw[ByteArray.ext_iff];rw[Go.Lib.toList_data,Go.Lib.toList_data] at e;exact Array.toList_inj.1 e
def hasB(l:IQ)(s:ByteArray):Bool:=l.any λx=>decide (x=s)
theorem xb{l:IQ}(h:∀(j:Nat) (x:ByteArray),l[j]?=some x->x≠s):hasB l s=false:=by
 unfold hasB;rw[List.any_eq_false];exact yj
theorem xc{l:IQ}{j:Nat}(h:l[j]?=some s):hasB l s=true:=by
 unfold hasB;rw[List.any_eq_true];exact⟨s,Ia h,by simp⟩
theorem n4(A:IP)(n c:Nat)(l:IQ)(s:ByteArray)(w:World)(h:cJ (EF nN) 1 w w.heap.size A n l)(hn:n<=1000000) :
  Calls prog 113 #[.slice A n c,.string s] w λe ab=>e=.returned (.bool (hasB l s))/\w=ab:=by
 have H:=ae h;clear h;go_enter func113,ntmps113;go_wp2
 go_loop [5] (λi=>∃k:Nat,k<=n/\i=.int .i64 k/\∀(j:Nat) (x:ByteArray),j<k->l[j]?=some x->x≠s) (λi=>n - (intOf i).toNat)
 case atStart=>exact⟨0,Ix _,rfl,λj x h=>ad⟩
 case round=>
  obtain⟨k,ap,rfl,aZ⟩:=hrel;have b2:=ae aZ;clear aZ;by_cases al:k<n
  .obtain⟨b,o,x,rfl,O,hx,hc⟩:=H.str al;have aV:=ae hx;clear hx;by_cases hs:x=s
   .subst hs;go_wp2;go_ret;exact⟨ret_bool (xc aV.o).symm,rfl⟩
   .have q:=rK hs;have bs:=ae hs;clear hs;go_wp2
    go_round
    case rel=>exact⟨k+1,ad,by go_num,λj y a1 a4=>by
     by_cases m:j=k
     .subst m;rw[aV.o] at a4;injection a4 with a4;subst a4;exact bs.o
     .exact b2.o j y ad a4⟩
    case measure=>exact aF
  .have Q:k=n:=ad;have cI:=ae Q;clear Q;go_wp2;go_ret;exact⟨ret_bool (xb λj x a1=>b2.o j x (by have:=(List.getElem?_eq_some_iff.1 a1).1;have:=H.1;have:=cI.o;omega) a1).symm,rfl⟩
theorem mm(w:World)(cs:Array Value)(t:TypeId)(l:IQ)(hc:cs=(l.map Value.string).toArray)(hl:l.length=n):cJ (EF nN) 1 (w.alloc (.cells cs t)) (w.alloc (.cells cs t)).heap.size (some ⟨w.heap.size,0,none⟩) n l:=by
 subst hc;refine⟨hl,λ_=>⟨w.heap.size,0,rfl,by simp,λk x hx=>⟨nN x,rfl,rfl,λj v a1=>?_⟩⟩⟩;have eG:j=0/\v=.string x:=by
  exact x8
 obtain⟨rfl,rfl⟩:=eG;rw[(an.new w t _).cell];simp[hx]
def strOf(l:List UInt8):ByteArray:=⟨l.toArray⟩
theorem ma(L:List (List UInt8))(s:ByteArray):hasB (L.map strOf) s=decide (s.data.toList∈L):=by
 unfold hasB;rw[Bool.eq_iff_iff,List.any_eq_true,IG];constructor
 .rintro⟨x,hx,he⟩;obtain⟨y,a4,rfl⟩:=Iz.1 hx;simp only[IG] at he;subst he;exact a4
 .intro h;refine⟨strOf s.data.toList,Iz.2 ⟨_,h,rfl⟩,?_⟩;simp[strOf]
def hz(s:ByteArray):Bool:=c5 s.data.toList
theorem mw(s:ByteArray)(w:World):Calls prog 81 #[.string s] w λe ab=>e=.returned (.bool (hz s))/\Ext w ab:=by
 go_enter func81,ntmps81;go_wp2_with(fail);refine(n4 _ 11 11 (rW.map strOf) s _ (mm w _ _ _ rfl rfl) ad).mono ?_;rintro e ab ⟨rfl,rfl⟩;go_wp2;go_ret;exact⟨ret_bool (ma _ _),IK.alloc _⟩
def ja(s:ByteArray):Bool:=br s.data.toList
theorem qw(hx:l[k]?=some x)(hl:bO x=false)(ap:k=0\/bp x=false):br l=false:=by
 cases l with
 | nil=>simp at hx
 | cons c l=>
  unfold br;simp only[Bool.and_eq_false_iff];left;left
  cases k with
  | zero=>
   simp at hx;subst hx
   exact .inl hl
  | succ k=>
   right;rw[List.getElem?_cons_succ] at hx;have hd:=ap.resolve_left ad;rw[List.all_eq_false];exact⟨x,Ia hx,by simp[bY,hl,hd]⟩
theorem uB(h:∀(j:Nat) (x:UInt8),l[j]?=some x->bO x=true\/(0<j/\bp x=true)):br l=(decide (1<=l.length) && decide (l.length<=16) && !c5 l):=by
 cases l with
 | nil=>rfl
 | cons c l=>
  have h0:=(h 0 c rfl).resolve_right ad;have y:l.all bY=true:=by
   rw[List.all_eq_true];intro x hx;obtain⟨j,a1⟩:=List.getElem?_of_mem hx;have:=h (j+1) x (by rw[List.getElem?_cons_succ];exact a1);unfold bY;rcases this with ac|ac<;>simp[ac]
  unfold br;simp[h0,y]
theorem byte_at(h:k<s.size):s.data.toList[k]?=some s[k]:=by
 rw[List.getElem?_eq_getElem (by simpa using h)];rfl
theorem gJ(s:ByteArray)(w:World)(hs:s.size<=1000000):Calls prog 50 #[.string s] w λe ab=>e=.returned (.bool (ja s))/\Ext w ab:=by
 go_enter func50,ntmps50;go_wp2
 go_loop [3] (λi=>∃k:Nat,k<=s.size/\i=.int .i64 k/\∀(j:Nat) (x:UInt8),j<k->s.data.toList[j]?=some x->bO x=true\/(0<j/\bp x=true)) (λi=>s.size - (intOf i).toNat)
 case atStart=>exact⟨0,Ix _,rfl,λj x h=>ad⟩
 case round=>
  obtain⟨k,ap,rfl,aZ⟩:=hrel;have b2:=ae aZ;clear aZ;by_cases al:k<s.size
  .have cH:=ae (byte_at al);have step:(bO s[k]=true\/(0<k/\bp s[k]=true))->∀(j:Nat) (x:UInt8),j<k+1->s.data.toList[j]?=some x->bO x=true\/(0<j/\bp x=true):=by
    intro h j x a1 hx;by_cases m:j=k
    .subst m;rw[cH.o] at hx;injection hx with hx;subst hx;exact h
    .exact b2.o j x ad hx
   have bs:=ae step;clear step;go_wp2_with(fail);refine(lC s[k] w).mono ?_;rintro e ab ⟨rfl,rfl⟩;by_cases hl:bO s[k]=true
   .rw[hl];have bL:=ae hl;clear hl;go_wp2
    go_round
    case rel=>exact⟨k+1,ad,by go_num,bs.o (.inl bL.o)⟩
    case measure=>exact aF
   .have T:bO s[k]=false:=by simpa using hl
    rw[T];have bL:=ae T;clear hl T;by_cases bK:k=0
    .have cI:=ae bK;subst bK;go_wp2;go_ret;exact⟨ret_bool (qw cH.o bL.o (.inl rfl)).symm,IK⟩
    .have q:((k:Int) == 0)=false:=by simpa using bK
     have o:(k == 0)=false:=by simpa using bK
     have cI:=ae bK;clear bK;go_wp2_with(fail);refine(kz s[k] w).mono ?_;rintro e ab ⟨rfl,rfl⟩;by_cases hd:bp s[k]=true
     .rw[hd];have eK:=ae hd;clear hd;go_wp2
      go_round
      case rel=>exact⟨k+1,ad,by go_num,bs.o (.inr ⟨by have:=cI.o;omega,eK.o⟩)⟩
      case measure=>exact aF
     .have z:bp s[k]=false:=by simpa using hd
      rw[z];have eK:=ae z;clear hd z;go_wp2;go_ret;exact⟨ret_bool (qw cH.o bL.o (.inr eK.o)).symm,IK⟩
  .have Q:k=s.size:=ad;have r:ja s=(decide (1<=s.size) && decide (s.size<=16) && !hz s):=by
    have:=uB (l:=s.data.toList) (λj x hx=>b2.o j x (by have:=(List.getElem?_eq_some_iff.1 hx).1;simp at this;rw[Q];exact this) hx);simpa[ja,hz] using this
   have cH:=ae r;subst Q;clear r;by_cases ac:1<=s.size/\s.size<=16
   .have q1:decide ((s.size:Int)>=1)=true:=by simp;omega
    have dq:decide ((s.size:Int)<=16)=true:=by simp;omega
    have a8:=ae (show ja s=!hz s by rw[cH.o];simp[ac]);clear ac;go_wp2_with(fail);refine(mw s w).mono ?_;rintro e ab ⟨rfl,O⟩;have a7:=ae O;clear O;go_wp2;go_ret;exact⟨ret_bool a8.symm,a7.o⟩
   .have a8:=ae (show ja s=false by rw[cH.o];simp;omega);by_cases J:1<=s.size
    .have q1:decide ((s.size:Int)>=1)=true:=by simp;omega
     have dq:decide ((s.size:Int)<=16)=false:=by simp;omega
     clear ac J;go_wp2;go_ret;exact⟨ret_bool a8.symm,IK⟩
    .have q1:decide ((s.size:Int)>=1)=false:=by simp;omega
     clear ac J;go_wp2;go_ret;exact⟨ret_bool a8.symm,IK⟩
structure fy(w:World)(b o cap:Nat)(s:ByteArray):Prop where
 bytes:Lib.Bytes w b o s
 lt:b<w.heap.size
 fit:s.size<=cap
 small:s.size<=1000000
theorem fy.on(h:fy w b o cap s)(O:Ext w ab):fy ab b o cap s:=
 ⟨λi ak=>(O.cell h.lt (λh=>h)).trans (h.bytes i ak),Hy h.lt O.size,h.fit,h.small⟩
theorem fT(s:ByteArray)(j n:Nat):(s.extract j (j+n)).data.toList=(s.data.toList.drop j).take n:=by
 rw[Lib.extract_data,Nat.add_sub_cancel_left]
theorem vc(s:ByteArray):strOf s.data.toList=s:=by
 unfold strOf;cases s
 simp
theorem m8(hc:s.size<=cap)(hn:0<n)(ap:k+n<=s.size)(W:World):
  (Instr.slice 95 (.slice (some ⟨b,o,none⟩) s.size cap) (some (.int .i64 (k:Int))) (some (.int .i64 ((k:Int)+(n:Int)))) none).run prog W=.ok (.slice (some ⟨b,o+k,none⟩) n (cap - k)) W:=by
 have:=Lib.run_slice_window (P:=prog) W 95 5 Tryz.underlying95 (λw=>by kernel_rfl) b o s.size cap k (k+n) ad ad;rw[show k+n - k=n by omega,Int.natCast_add] at this;exact this
theorem jI(h:fy w b o cap s)(c:Nat)(ap:k+n<=s.size):
  (convert 95 9 (.slice (some ⟨b,o+k,none⟩) n c)).run prog w=.ok (.string (s.extract k (k+n))) w:=
 Lib.run_convert_window w _ _ _ Tryz.underlying95 Tryz.underlying5 Tryz.underlying9 b o s h.bytes k n c ap
theorem BZ(s:ByteArray)(b o cap k:Nat)(w:World)(h:fy w b o cap s)(ap:k<s.size) :
  Calls prog 88 #[.slice (some ⟨b,o,none⟩) s.size cap,.int .i64 k] w λe ab=>e=.returned (.int .i64 (eI (s.data.toList.drop k)))/\Ext w ab:=by
 have H:=ae h;have bT:=h.small;have L:=h.fit;have s1:=λW=>m8 (b:=b) (o:=o) h.fit (k:=k) (n:=1) ad ad W;have b0:∀W,Ext w W->∀(cs:Array Value) (t:TypeId),(convert 95 9 (.slice (some ⟨b,o+k,none⟩) 1 (cap - k))).run prog (W.alloc (.cells cs t))=.ok (.string (s.extract k (k+1))) (W.alloc (.cells cs t)):=λW ba cs t=>jI (h.on (ba.alloc (.cells cs t))) (k:=k) (n:=1) (cap - k) ad;have r:=ae b0;clear b0;have hg:(0:Int)<=(k:Int):=ad;clear h;by_cases J:k+1<s.size
 .have s2:=λW=>m8 (b:=b) (o:=o) L (k:=k) (n:=2) ad ad W;have c2:=λ(cs:Array Value) (t:TypeId)=>jI (H.on (IK.alloc (.cells cs t))) (k:=k) (n:=2) (cap - k) ad;simp only[Int.cast_ofNat_Int] at s1 s2;go_enter func88,ntmps88;go_wp2_with(fail);refine(n4 _ 6 6 (eT.map strOf) _ _ (mm w _ _ _ rfl rfl) ad).mono ?_;rintro e ab ⟨rfl,rfl⟩;rw[ma,fT];have bS:decide (2<=(s.data.toList.drop k).length)=true:=by simp;omega
  by_cases hm:(s.data.toList.drop k).take 2∈eT
  .have a8:=ae (show eI (s.data.toList.drop k)=2 by unfold eI;rw[decide_eq_true hm,bS];rfl);rw[decide_eq_true hm];clear hm bS;exact AB
  .have a8:=ae (show eI (s.data.toList.drop k)=if decide ((s.data.toList.drop k).take 1∈ey) then 1 else 0 by unfold eI;rw[decide_eq_false hm];rfl);rw[decide_eq_false hm];clear hm bS c2 s2;generalize ba:World.alloc w _=W;have aw:=bm ba;have c1:=r.o W aw;clear ba;go_wp2_with(fail);refine(n4 _ 17 17 (ey.map strOf) _ _ (mm W _ _ _ rfl rfl) ad).mono ?_;rintro e ab ⟨rfl,rfl⟩;rw[ma,fT];by_cases hm:(s.data.toList.drop k).take 1∈ey
   .rw[decide_eq_true hm] at a8 ⊢;exact yl
   .rw[decide_eq_false hm] at a8 ⊢;exact yl
 .have bS:decide (2<=(s.data.toList.drop k).length)=false:=by simp;omega
  have dg:decide ((k:Int)+1<(s.size:Int))=false:=by simp;omega
  have c8:¬(k:Int)+1<(s.size:Int):=ad;have a8:=ae (show eI (s.data.toList.drop k)=if decide ((s.data.toList.drop k).take 1∈ey) then 1 else 0 by unfold eI;rw[bS,Bool.and_false];rfl);simp only[Int.cast_ofNat_Int] at s1;clear bS;go_enter func88,ntmps88;have c1:=r.o w IK;go_wp2_with(fail);refine(n4 _ 17 17 (ey.map strOf) _ _ (mm w _ _ _ rfl rfl) ad).mono ?_;rintro e ab ⟨rfl,rfl⟩;rw[ma,fT];by_cases hm:(s.data.toList.drop k).take 1∈ey
  .rw[decide_eq_true hm] at a8 ⊢;clear hm;exact AB
  .rw[decide_eq_false hm] at a8 ⊢;clear hm;exact AB
theorem fy.byte(h:fy w b o cap s)(ap:k<s.size):w.cell? ⟨b,o+k,none⟩=some (.int .u8 (s[k].toNat:Int)):=h.bytes k ap
theorem cN(h:k<s.size):s.data.toList.drop k=s[k]::s.data.toList.drop (k+1):=by
 rw[List.drop_eq_getElem_cons (by simpa using h)];rfl
theorem pN(c:UInt8):ob c=true↔c.toNat=32\/c.toNat=9\/c.toNat=10\/c.toNat=13:=by
 simp only[ob,Bool.or_eq_true,beq_iff_eq,<-UInt8.toNat_inj];show ((c.toNat=32\/c.toNat=9)\/c.toNat=10)\/c.toNat=13↔_
 omega
theorem nW(c:UInt8):c=47↔c.toNat=47:=by rw[<-UInt8.toNat_inj];rfl
theorem vX(c:UInt8):c=10↔c.toNat=10:=by rw[<-UInt8.toNat_inj];rfl
theorem kS(h:ob c=true):aQ false (c::l)=aQ false l:=by rw[aQ,if_pos h]
theorem m3(h:ob c=false)(J:¬(c=47/\l.head?=some 47)):aQ false (c::l)=c::l:=by rw[aQ,if_neg (by simp[h]),if_neg J]
theorem wC(h:c≠10):aQ true (c::l)=aQ true l:=by rw[aQ,if_neg h]
theorem B1(h:c=47)(J:l.head?=some 47):aQ false (c::l)=aQ true (c::l):=by
 subst h;have a:aQ false (47::l)=aQ true l:=by rw[aQ,if_neg (by decide),if_pos ⟨rfl,J⟩]
 exact a.trans (wC (by decide)).symm
theorem B3:aQ true (10::l)=aQ false (10::l):=by
 have a:aQ true (10::l)=aQ false l:=by rw[aQ,if_pos rfl]
 exact a.trans (kS (by decide)).symm
theorem B2(b:Bool):aQ b []=[]:=by cases b<;>rfl
theorem ko(s:ByteArray)(b o cap k:Nat)(w:World)(h:fy w b o cap s)(ap:k<=s.size) :
  Calls prog 86 #[.slice (some ⟨b,o,none⟩) s.size cap,.int .i64 k] w λe ab=>e=.returned (.int .i64 ((s.size:Int) - (aQ false (s.data.toList.drop k)).length))/\w=ab:=by
 have H:=ae h;have bT:=h.small;clear h;go_enter func86,ntmps86;go_wp2
 go_loop [1] (λi=>∃j:Nat,j<=s.size/\i=.int .i64 j/\aQ false (s.data.toList.drop k)=aQ false (s.data.toList.drop j)) (λi=>s.size - (intOf i).toNat)
 case atStart=>exact⟨k,ap,rfl,rfl⟩
 case round=>
  obtain⟨j,a1,rfl,g⟩:=hrel;have q:=ae g;clear g;by_cases al:j<s.size
  .have hc:=H.byte al;have aG:(0:Int)<=(j:Int):=ad;have R:(j:Int)<(s.size:Int):=ad;by_cases n:s[j].toNat=32
   .have I:(((s[j].toNat:Nat):Int) == 32)=true:=by simp[n]
    have ay:=ae (q.trans ((congrArg _ (cN al)).trans (kS ((pN _).2 ad))));clear n;go_wp2
    go_round
    case rel=>exact⟨j+1,ad,by go_num,ay.o⟩
    case measure=>exact aF
   by_cases a4:s[j].toNat=9
   .have cI:(((s[j].toNat:Nat):Int) == 9)=true:=by simp[a4]
    have u:(((s[j].toNat:Nat):Int) == 32)=false:=by simp;omega
    have ay:=ae (q.trans ((congrArg _ (cN al)).trans (kS ((pN _).2 ad))));clear a4 n;go_wp2
    go_round
    case rel=>exact⟨j+1,ad,by go_num,ay.o⟩
    case measure=>exact aF
   by_cases a:s[j].toNat=10
   .have y:(((s[j].toNat:Nat):Int) == 10)=true:=by simp[a]
    have u:(((s[j].toNat:Nat):Int) == 32)=false:=by simp;omega
    have C:(((s[j].toNat:Nat):Int) == 9)=false:=by simp;omega
    have ay:=ae (q.trans ((congrArg _ (cN al)).trans (kS ((pN _).2 ad))));clear a n a4;go_wp2
    go_round
    case rel=>exact⟨j+1,ad,by go_num,ay.o⟩
    case measure=>exact aF
   by_cases t:s[j].toNat=13
   .have G:(((s[j].toNat:Nat):Int) == 13)=true:=by simp[t]
    have u:(((s[j].toNat:Nat):Int) == 32)=false:=by simp;omega
    have C:(((s[j].toNat:Nat):Int) == 9)=false:=by simp;omega
    have z:(((s[j].toNat:Nat):Int) == 10)=false:=by simp;omega
    have ay:=ae (q.trans ((congrArg _ (cN al)).trans (kS ((pN _).2 ad))));clear t n a4 a;go_wp2
    go_round
    case rel=>exact⟨j+1,ad,by go_num,ay.o⟩
    case measure=>exact aF
   have u:(((s[j].toNat:Nat):Int) == 32)=false:=by simp;omega
   have C:(((s[j].toNat:Nat):Int) == 9)=false:=by simp;omega
   have z:(((s[j].toNat:Nat):Int) == 10)=false:=by simp;omega
   have F:(((s[j].toNat:Nat):Int) == 13)=false:=by simp;omega
   have gp:ob s[j]=false:=by
    cases hw:ob s[j] with
    | false=>rfl
    | true=>have:=(pN _).1 hw;omega
   have N:=ae gp;clear gp n a4 a t;have d:∀l:List UInt8,l=s.data.toList.drop j->((s.size:Int) - l.length)=j:=λl hl=>by subst hl;simp;omega
   by_cases J:j+1<s.size
   .have cf:=H.byte J;have a5:((j+1:Nat):Int)=(j:Int)+1:=ad;have dr:decide ((j:Int)+1<(s.size:Int))=true:=by simp;omega
    by_cases c:s[j].toNat=47
    .have A:(((s[j].toNat:Nat):Int) == 47)=true:=by simp[c]
     by_cases f:s[j+1].toNat=47
     .have B:(((s[j+1].toNat:Nat):Int) == 47)=true:=by simp[f]
      have bP:=ae (show aQ false (s.data.toList.drop k)=aQ true (s.data.toList.drop j) by
       rw[q.o,cN al];refine B1 ((nW _).2 c) ?_;rw[cN J,List.head?_cons,(nW _).2 f])
      have b2:=ae (show s[j].toNat≠10 by omega);clear c f;go_wp2
      go_loop [1] (λi=>∃m:Nat,j<=m/\m<=s.size/\i=.int .i64 m/\aQ false (s.data.toList.drop k)=aQ true (s.data.toList.drop m)) (λi=>s.size - (intOf i).toNat)
      case atStart=>exact⟨j,Hx _,a1,rfl,bP.o⟩
      case round=>
       obtain⟨m,D,hm,rfl,S⟩:=hrel;have eV:=ae S;clear S;by_cases ck:m<s.size
       .have v:=H.byte ck;have b1:(0:Int)<=(m:Int):=ad;have cj:(m:Int)<(s.size:Int):=ad;by_cases a:s[m].toNat=10
        .have y:(((s[m].toNat:Nat):Int) != 10)=false:=by simp[a]
         have E:m≠j:=by
          rintro rfl;exact b2.o a
         have bf:=ae (show aQ false (s.data.toList.drop k)=aQ false (s.data.toList.drop m) by rw[eV.o,cN ck,(vX _).2 a];exact B3);clear a;go_wp2
         go_round
         case rel=>exact⟨m,hm,rfl,bf.o⟩
         case measure=>exact aF
        .have y:(((s[m].toNat:Nat):Int) != 10)=true:=by simp;omega
         have bf:=ae (show aQ false (s.data.toList.drop k)=aQ true (s.data.toList.drop (m+1)) by rw[eV.o,cN ck];exact wC (λh=>a ((vX _).1 h)));clear a;go_wp2
         go_round
         case rel=>exact⟨m+1,ad,ad,by go_num,bf.o⟩
         case measure=>exact aF
       .have x:m=s.size:=ad;have bf:=ae (show aQ false (s.data.toList.drop k)=aQ false (s.data.toList.drop m) by
         rw[eV.o,x,IF (by simp)];rfl)
        clear x;go_wp2
        go_round
        case rel=>exact⟨m,hm,rfl,bf.o⟩
        case measure=>exact aF
     .have B:(((s[j+1].toNat:Nat):Int) == 47)=false:=by simp;omega
      have a8:=ae (d _ (q.trans ((congrArg _ (cN al)).trans ((m3 N.o (by
       rintro⟨_,h⟩;rw[cN J,List.head?_cons] at h;injection h with h;exact f ((nW _).1 h))).trans (cN al).symm))))
      clear c f d;go_wp2;go_ret;exact⟨ret_int a8.symm,rfl⟩
    .have A:(((s[j].toNat:Nat):Int) == 47)=false:=by simp;omega
     have a8:=ae (d _ (q.trans ((congrArg _ (cN al)).trans ((m3 N.o (λh=>c ((nW _).1 h.1))).trans (cN al).symm))));clear c d;go_wp2;go_ret;exact⟨ret_int a8.symm,rfl⟩
   .have dr:decide ((j:Int)+1<(s.size:Int))=false:=by simp;omega
    have a8:=ae (d _ (q.trans ((congrArg _ (cN al)).trans ((m3 N.o (by
     rintro⟨_,h⟩;rw[IF (by simp;omega)] at h;cases h)).trans (cN al).symm))))
    clear J d;go_wp2;go_ret;exact⟨ret_int a8.symm,rfl⟩
  .have r:j=s.size:=ad;have a8:=ae (show (s.size:Int) - (aQ false (s.data.toList.drop k)).length=s.size by rw[q.o,r,IF (by simp)];simp[B2]);subst r;go_wp2;go_ret;exact⟨ret_int a8.symm,rfl⟩
theorem sF(h:(x.toNat:Int)=d+48)(v:Int)(l:List UInt8):h4 v (x::l)=if (9223372036854775807 - d) / 10<v then -1 else h4 (10*v+d) l:=by
 simp only[h4];rw[h,show d+48 - 48=d by omega]
theorem xo{v:Int}(h:v<=(9223372036854775807 - d) / 10)(hd:0<=d/\d<=9)(bC:0<=v):0<=10*v+d/\10*v+d<=9223372036854775807:=ad
theorem uD(s:ByteArray)(b o cap k n c:Nat)(w:World)(h:fy w b o cap s)(ap:k+n<=s.size)(hd:((s.data.toList.drop k).take n).all bp=true) :
  Calls prog 87 #[.slice (some ⟨b,o+k,none⟩) n c] w λe ab=>e=.returned (.int .i64 (nQ ((s.data.toList.drop k).take n)))/\w=ab:=by
 have H:=ae h;have bT:=h.small;have eK:=ae hd;clear h hd;go_enter func87,ntmps87;go_wp2
 go_loop [3,4] (λa i=>∃(j:Nat) (v:Int),j<=n/\0<=v/\v<=9223372036854775807/\a=.int .i64 v/\i=.int .i64 j/\h4 v (((s.data.toList.drop k).take n).drop j)=nQ ((s.data.toList.drop k).take n)) (λ_ i=>n - (intOf i).toNat)
 case atStart=>exact⟨0,0,Ix _,ad,ad,rfl,rfl,rfl⟩
 case round=>
  obtain⟨j,v,a1,t,d6,rfl,rfl,g⟩:=hrel;have q:=ae g;clear g;by_cases al:j<n
  .have hc:=H.byte (k:=k+j) ad;rw[<-Nat.add_assoc] at hc;have f:((s.data.toList.drop k).take n)[j]?=some s[k+j]:=by
    rw[List.getElem?_take_of_lt al,List.getElem?_drop];exact byte_at ad
   have m:bp s[k+j]=true:=List.all_eq_true.1 eK.o _ (Ia f);have r:48<=s[k+j].toNat/\s[k+j].toNat<=57:=by simpa[bp] using m
   have bF:((s.data.toList.drop k).take n).drop j=s[k+j]::((s.data.toList.drop k).take n).drop (j+1):=by
    have hl:=(List.getElem?_eq_some_iff.1 f)
    rw[List.drop_eq_getElem_cons hl.1,hl.2]
   have aV:=ae (q.symm.trans (congrArg (h4 v) bF));clear f m bF;generalize s[k+j]=x at *;obtain⟨d,l⟩:∃d:Int,(x.toNat:Int)=d+48:=⟨(x.toNat:Int) - 48,ad⟩
   rw[l] at hc;have P:=ae l;have d0:0<=d:=ad;have d1:d<=9:=ad;clear l r;by_cases bh:(9223372036854775807 - d) / 10<v
   .have a8:=ae (aV.trans ((sF P.o v _).trans (if_pos bh)));go_wp2;go_ret;exact⟨ret_int a8.symm,rfl⟩
   .have a8:=ae (aV.trans ((sF P.o v _).trans (if_neg bh)));have a7:=ae (xo ad ⟨d0,d1⟩ t);go_wp2
    go_round
    case rel=>exact⟨j+1,10*v+d,ad,a7.1,a7.2,rfl,by go_num,a8.symm⟩
    case measure=>exact aF
  .have G:j=n:=ad;have a8:=ae (show v=nQ ((s.data.toList.drop k).take n) by
    rw[<-q.o,G,IF (by simp;omega)];rfl)
   clear G;go_wp2;go_ret;exact⟨ret_int a8.o,rfl⟩
def pW(t:Tok):List Value:=[.int .i64 t.kind,.string (strOf t.text),.int .i64 t.num,.int .i64 t.pos]
theorem Bp(l:List Tok):∀x∈l,(pW x).length=4:=λ_ _=>rfl
theorem k0(l:List Tok)(x:Tok):(l++[x]).flatMap pW=l.flatMap pW++pW x:=by
 rw[List.flatMap_append];simp
theorem ox:b2 prog 159 181 (.agg #[.int .i64 0,.string ⟨#[]⟩,.int .i64 0,.int .i64 0]) 4 40:=b2.mk' Tryz.underlying159 (by kernel_rfl) rfl ad
theorem fy.C6(h:fy w b o cap s)(O:Below w.heap.size w ab):fy ab b o cap s:=h.on (Fr.of O)
def j0(w:World)(r:List Tok×Int×Int)(e:Ending)(ab:World):Prop:=
 ∃A n c,e=.returned (.tuple #[.slice A n c,.int .i64 r.2.1,.int .i64 r.2.2])/\n<=c/\cJ (EF pW) 4 ab ab.heap.size A n r.1/\Below w.heap.size w ab
theorem j0.bad{p q:Int}{r:List Tok×Int×Int}(aY:r=([],p,q))(O:Below w.heap.size w ab):j0 w r (.returned (.tuple #[.slice none 0 0,.int .i64 p,.int .i64 q])) ab:=by
 subst aY;exact⟨none,0,0,rfl,Hx _,cJ.bH _,O⟩
structure r0(w wr:World)(s:ByteArray)(k:Nat)(acc:List Tok)(out:Value):Prop where
 own:wr.ownsRow w.heap.size 181 4 out acc.length (acc.flatMap pW)
 hW:acc.length<=4000
 le:k<=s.size
 skip:aQ false (s.data.toList.drop k)=s.data.toList.drop k
 CR:eY (s.size - k+1) s.size (s.data.toList.drop k) acc=fq s.data.toList
 below:Below w.heap.size w wr
theorem l0(s:ByteArray)(k:Nat):(s.data.toList.drop k).length=s.size - k:=by simp
theorem gP:∀(b:Bool) (l:List UInt8),∃n,aQ b l=l.drop n/\n<=l.length
 | b,[]=>⟨0,by cases b<;>rfl,Hx _⟩
 | true,c::l=>by
  by_cases h:c=10
  .obtain⟨n,ac,J⟩:=gP false l;exact⟨n+1,by rw[aQ,if_pos h,ac];rfl,by simp;omega⟩
  .obtain⟨n,ac,J⟩:=gP true l
   exact⟨n+1,by rw[aQ,if_neg h,ac];rfl,by simp;omega⟩
 | false,c::l=>by
  by_cases h:ob c=true
  .obtain⟨n,ac,J⟩:=gP false l;exact⟨n+1,by rw[aQ,if_pos h,ac];rfl,by simp;omega⟩
  .by_cases J:c=47/\l.head?=some 47
   .obtain⟨n,ac,aR⟩:=gP true l;exact⟨n+1,by rw[aQ,if_neg h,if_pos J,ac];rfl,by simp;omega⟩
   .exact⟨0,by rw[aQ,if_neg h,if_neg J];rfl,by simp⟩
theorem hA:∀(b:Bool) (l:List UInt8),aQ false (aQ b l)=aQ b l
 | b,[]=>by cases b<;>rfl
 | true,c::l=>by
  rw[aQ];split
  .exact hA false l
  .exact hA true l
 | false,c::l=>by
  by_cases h:ob c=true
  .rw[kS h];exact hA false l
  .by_cases J:c=47/\l.head?=some 47
   .have e:aQ false (c::l)=aQ true l:=by rw[aQ,if_neg h,if_pos J]
    rw[e];exact hA true l
   .have e:aQ false (c::l)=c::l:=by rw[aQ,if_neg h,if_neg J]
    rw[e,e]
theorem mz(s:ByteArray)(m:Nat)(hm:m<=s.size):∃k,m<=k/\k<=s.size/\aQ false (s.data.toList.drop m)=s.data.toList.drop k/\aQ false (s.data.toList.drop k)=s.data.toList.drop k/\(s.size:Int) - (aQ false (s.data.toList.drop m)).length=k:=by
 obtain⟨n,ac,J⟩:=gP false (s.data.toList.drop m);have hl:(s.data.toList.drop m).length=s.size - m:=by simp
 refine⟨m+n,ad,ad,?_,?_,?_⟩
 .rw[ac,List.drop_drop]
 .rw[<-List.drop_drop,<-ac];exact hA _ _
 .rw[ac,List.length_drop,hl];omega
theorem qu(f n:Nat)(l:List UInt8)(acc:List Tok):eY f n l acc=eY f n (aQ false l) acc:=by
 cases f with
 | zero=>rfl
 | succ f=>unfold eY;rw[hA]
theorem kK:∀(f g n:Nat) (l:List UInt8) (acc:List Tok),l.length<f->l.length<g->eY f n l acc=eY g n l acc
 | 0,g,n,l,acc,h,_=>ad
 | f+1,0,n,l,acc,_,h=>ad
 | f+1,g+1,n,l,acc,aA,aM=>by
  unfold eY;have hs:=jf false l
  cases ap:aQ false l with
  | nil=>rfl
  | cons c r=>
   rw[ap] at hs;simp only[Im] at hs;have e1:∀p:UInt8->Bool,p c=true->((c::r).dropWhile p).length<f/\((c::r).dropWhile p).length<g:=λp hp=>by
    have:((c::r).dropWhile p).length<=r.length:=by
     rw[List.dropWhile_cons,if_pos hp];have:=(List.dropWhile_sublist p (l:=r)).length_le;exact this
    omega
   have e2:∀k,k≠0->((c::r).drop k).length<f/\((c::r).drop k).length<g:=λk ap=>by
    simp only[List.length_drop,Im];omega
   simp only[];by_cases hl:bO c=true
   .simp only[hl,if_true];have S:bY c=true:=by simp[bY,hl]
    rw[kK f g n _ _ (e1 _ S).1 (e1 _ S).2]
   .simp only[hl,II,if_false];by_cases hd:bp c=true
    .simp only[hd,if_true];rw[kK f g n _ _ (e1 _ hd).1 (e1 _ hd).2]
    .simp only[hd,II,if_false];by_cases bi:eI (c::r)=0
     .simp only[bi,if_true]
     .simp only[bi,if_false];rw[kK f g n _ _ (e2 _ bi).1 (e2 _ bi).2]
theorem r0.next{wr b:World}{m u:Nat}{out a:Value}{t:Tok}(h:r0 w wr s k acc out)
  (I:b.ownsRow w.heap.size 181 4 a (acc.length+1) (acc.flatMap pW++pW t)) (hn:acc.length≠4000) (M:k<m) (hm:m<=s.size)
  (he:eY (s.size - k+1) s.size (s.data.toList.drop k) acc=eY (s.size - k) s.size (s.data.toList.drop m) (acc++[t])) (O:Below w.heap.size w b)
  (b7:m<=u) (bM:u<=s.size) (b6:aQ false (s.data.toList.drop m)=s.data.toList.drop u) (bz:aQ false (s.data.toList.drop u)=s.data.toList.drop u):r0 w b s u (acc++[t]) a:=by
 have aA:=h.hW;refine⟨by rw[k0,Hz];exact I,by simp;omega,bM,bz,?_,O⟩;rw[<-h.CR,he,qu (s.size - k),b6];exact yk
theorem uu(s:ByteArray)(hs:s.size<=262144)(ac:aQ false (s.data.toList.drop 0)=s.data.toList.drop k):eY (s.size - k+1) s.size (s.data.toList.drop k) []=fq s.data.toList:=by
 have hl:s.data.toList.length=s.size:=by simp
 have g:aQ false s.data.toList=s.data.toList.drop k:=by simpa using ac
 unfold fq;rw[hl,if_neg ad,qu (s.size+1),g];exact yk
theorem Bq(f n:Nat)(acc:List Tok):eY (f+1) n [] acc=(acc++[⟨5,[],0,(n:Int)⟩],(n:Int),0):=by simp[eY,aQ]
theorem s5:s.data.toList.drop k=(s.data.toList.drop k).take n++s.data.toList.drop (k+n):=by
 rw[<-List.drop_drop,List.take_append_drop]
theorem qx(h:∀hl:k+n<s.size,p (s[k+n]'hl)=false):∀c,(s.data.toList.drop (k+n)).head?=some c->p c=false:=by
 intro c hc;by_cases hl:k+n<s.size
 .rw[cN hl] at hc;simp at hc;subst hc;exact h hl
 .rw[IF (by simp;omega)] at hc;cases hc
theorem rm(h:k<s.size):((s.size:Nat):Int) - ((s.data.toList.drop (k+1)).length+1)=(k:Int):=by rw[l0];omega
theorem xf(ap:k<s.size)(g:aQ false (s.data.toList.drop k)=s.data.toList.drop k)(hl:bO s[k]=true)(y:((s.data.toList.drop k).take n).all bY=true)
  (d:∀h:k+n<s.size,bY (s[k+n]'h)=false) :
  eY (f+1) s.size (s.data.toList.drop k) acc=if (!c5 ((s.data.toList.drop k).take n) && decide (16<((s.data.toList.drop k).take n).length))=true then ([],(k:Int),3)
   else if acc.length=4000 then ([],(k:Int),3) else eY f s.size (s.data.toList.drop (k+n)) (acc++[⟨if c5 ((s.data.toList.drop k).take n) then 3 else 1,(s.data.toList.drop k).take n,0,(k:Int)⟩]):=by
 have e:=gG y (qx d);rw[<-s5] at e;rw[eY,g];rw[cN ap] at e ⊢;simp only[hl,if_true,e.1,e.2,rm ap]
theorem Br(ap:k<s.size)(g:aQ false (s.data.toList.drop k)=s.data.toList.drop k)(hl:bO s[k]=false)(hd:bp s[k]=true)(y:((s.data.toList.drop k).take n).all bp=true)
  (d:∀h:k+n<s.size,bp (s[k+n]'h)=false) :
  eY (f+1) s.size (s.data.toList.drop k) acc=if nQ ((s.data.toList.drop k).take n)<0 then ([],(k:Int),2)
   else if acc.length=4000 then ([],(k:Int),3) else eY f s.size (s.data.toList.drop (k+n)) (acc++[⟨2,(s.data.toList.drop k).take n,nQ ((s.data.toList.drop k).take n),(k:Int)⟩]):=by
 have e:=gG y (qx d);rw[<-s5] at e;rw[eY,g];rw[cN ap] at e ⊢;simp only[hl,hd,II,if_false,if_true,e.1,e.2,rm ap]
theorem xe(ap:k<s.size)(g:aQ false (s.data.toList.drop k)=s.data.toList.drop k)(hl:bO s[k]=false)(hd:bp s[k]=false):
  eY (f+1) s.size (s.data.toList.drop k) acc=if eI (s.data.toList.drop k)=0 then ([],(k:Int),1)
   else if acc.length=4000 then ([],(k:Int),3) else eY f s.size (s.data.toList.drop (k+eI (s.data.toList.drop k))) (acc++[⟨4,(s.data.toList.drop k).take (eI (s.data.toList.drop k)),0,(k:Int)⟩]):=by
 have J:s.data.toList.drop (k+eI (s.data.toList.drop k))=(s.data.toList.drop k).drop (eI (s.data.toList.drop k)):=by rw[List.drop_drop]
 rw[J,eY,g];rw[cN ap];simp only[hl,hd,II,if_false,rm ap]
theorem BY(l:List UInt8)(h:l≠[]):eI l<=l.length:=by
 unfold eI
 have:1<=l.length:=by cases l with
  | nil=>exact absurd rfl h
  | cons=>simp
 split
 .rename_i aG;simp only[Il,IG] at aG;exact aG.2
 .split<;>omega
theorem ov(hl:k+n<s.size)(h:((s.data.toList.drop k).take n).all p=true)(hp:p (s[k+n]'hl)=true):((s.data.toList.drop k).take (n+1)).all p=true:=by
 have aM:(s.data.toList.drop k)[n]?=some (s[k+n]'hl):=by rw[List.getElem?_drop];exact byte_at hl
 rw[a0 aM,List.all_append,h];simp[hp]
theorem gD(hc:s.size<=cap)(hn:0<n)(ap:k+n<=s.size)(W:World):
  (Instr.slice 95 (.slice (some ⟨b,o,none⟩) s.size cap) (some (.int .i64 (k:Int))) (some (.int .i64 ((k:Int)+(n:Int)))) none).run prog W=.ok (.slice (some ⟨b,o+k,none⟩) n (cap - k)) W:=m8 hc hn ap W
theorem p3(s:ByteArray)(k n:Nat):strOf ((s.data.toList.drop k).take n)=s.extract k (k+n):=by rw[<-fT,vc]
structure r4(wr X:World)(kind num:Int)(k:Nat):Prop where
 below:Below wr.heap.size wr X
 blk:an X wr.heap.size 181 #[.int .i64 kind,.string ⟨#[]⟩,.int .i64 num,.int .i64 k]
 lt:wr.heap.size<X.heap.size
theorem wi(s:ByteArray)(b o cap:Nat)(w:World)(h:fy w b o cap s)(hs:s.size<=262144) :
  Calls prog 52 #[.slice (some ⟨b,o,none⟩) s.size cap] w (j0 w (fq s.data.toList)):=by
 have H:=ae h;have L:=h.fit;clear h;go_enter func52,ntmps52;go_wp2_with(fail);refine(show Calls prog 86 #[.slice (some ⟨b,o,none⟩) s.size cap,.int .i64 0] _ _ from ko s b o cap 0 _ H.o (Ix _)).mono ?_;rintro e ab ⟨rfl,rfl⟩;obtain⟨di,_,bK,ac,J,aR⟩:=mz s 0 (Ix _);rw[aR];have bH:=ae (show r0 w w s di [] (.slice none 0 0) from ⟨⟨by simp,.inl ⟨rfl,rfl⟩⟩,by simp,bK,J,uu s hs ac,Below.refl _ _⟩);clear ac J aR;go_wp2_with(fail);go_loopw [5,6] (λout i wr=>∃(k:Nat) (acc:List Tok),i=.int .i64 k/\r0 w wr s k acc out) (λ_ i _=>s.size+1 - (intOf i).toNat)
 case atStart=>exact⟨di,[],rfl,bH.o⟩
 case round=>
  obtain⟨k,acc,rfl,br⟩:=hrel;have bL:=ae br;clear bH bK;obtain⟨A,c,aB,aD,_,_,_⟩:=bI br.own;subst aB;have F:=br.hW;have hle:=br.le;clear br;by_cases al:k<s.size
  case neg=>
   have cq:k=s.size:=ad;have q:((k:Int) == (s.size:Int))=true:=by simp;omega
   have a8:=ae (show fq s.data.toList=(acc++[⟨5,[],0,(s.size:Int)⟩],(s.size:Int),0) by
    rw[<-bL.CR,cq,IF (by simp)];exact Bq _ _ _)
   subst cq;go_wp2_with((at_builtin;refine cI wr ox rfl (.tmp 21) (.tmp 24) rfl w.heap.size _ _ _ #[.int .i64 5,.string ⟨#[]⟩,.int .i64 0,.int .i64 s.size] rfl bL.own rfl rfl (by simp[Value.oneCell']) ad ad bL.below.size ?_;intro v2 aT E bb G;obtain⟨A2,c2,rfl,O,_⟩:=bI E))
   go_ret3
   rw[a8.o];refine⟨A2,acc.length+1,c2,rfl,O,jb (l:=acc++[⟨5,[],0,(s.size:Int)⟩]) (by rw[k0];exact E) (Bp _) (by simp),?_⟩;exact eL bL.below bL.own bb (Hx _) bL.below.size
  have q:((k:Int) == (s.size:Int))=false:=by simp;omega
  have hc:=H.C6 bL.below;have aH:=hc.byte al;have aI:=hc.lt;have U:∀(j:Nat) (a1:j<s.size) (cs:Array Value) (t:TypeId),(wr.alloc (.cells cs t)).cell? ⟨b,o+j,none⟩=some (.int .u8 (s[j].toNat:Int)):=λj a1 cs t=>(hc.on (IK.alloc _)).byte a1;obtain⟨bP,aw⟩:=aN hc U;have b1:=U k al #[.int .i64 0,.string ⟨#[]⟩,.int .i64 0,.int .i64 k] 181;clear hc U;go_wp2_with(fail);refine(lC s[k] _).mono ?_;rintro e ab ⟨rfl,rfl⟩;by_cases hl:bO s[k]=true
  .rw[hl];have aA:=ae hl;clear hl b1;go_wp2_with(fail)
   go_loop [8] (λe=>∃n:Nat,k+n<=s.size/\e=.int .i64 ((k:Int)+(n:Int))/\((s.data.toList.drop k).take n).all bY=true) (λe=>s.size+1 - (intOf e).toNat)
   case atStart=>exact⟨0,ad,by simp,by simp⟩
   case round=>
    obtain⟨n,hn,rfl,y⟩:=hrel;have HA:=ae y;clear y;have t1:((k:Int)+(n:Int)).toNat=k+n:=ad;have aG:(0:Int)<=(k:Int)+(n:Int):=ad;by_cases cg:k+n<s.size
    case' pos=>
     have cj:=aw.o (k+n) cg #[.int .i64 0,.string ⟨#[]⟩,.int .i64 0,.int .i64 k] 181;have R:(k:Int)+(n:Int)<(s.size:Int):=ad;go_wp2_with(fail);refine(lC s[k+n] _).mono ?_;rintro e ab ⟨rfl,rfl⟩;by_cases bS:bO s[k+n]=true
     .rw[bS];have cP:=ae (ov (p:=bY) cg HA.o (by simp[bY,bS]));clear bS;go_wp2
      go_round
      case rel=>exact⟨n+1,ad,by simp;omega,cP.o⟩
      case measure=>exact aF
     have am:bO s[k+n]=false:=by simpa using bS
     rw[am];have P:=ae am;clear bS am;go_wp2_with(fail);refine(kz s[k+n] _).mono ?_;rintro e ab ⟨rfl,rfl⟩;by_cases bJ:bp s[k+n]=true
     .rw[bJ];have cP:=ae (ov (p:=bY) cg HA.o (by simp[bY,bJ]));clear bJ;go_wp2
      go_round
      case rel=>exact⟨n+1,ad,by simp;omega,cP.o⟩
      case measure=>exact aF
     have C:bp s[k+n]=false:=by simpa using bJ
     rw[C];have S:bY s[k+n]=false:=by simp[bY,P.o,C]
     have aj:=ae (show 0<n from by
      rcases Nat.eq_zero_or_pos n with h0|h0
      .subst h0;have:=P.o;simp only[Ij] at this;rw[aA.o] at this;cases this
      .exact h0)
     have M:=ae (show ∀h:k+n<s.size,bY (s[k+n]'h)=false from λ_=>S);clear bJ C S cj
    case' neg=>
     have R:decide ((k:Int)+(n:Int)<(s.size:Int))=false:=by simp;omega
     have aj:=ae (show 0<n by omega);have M:=ae (show ∀h:k+n<s.size,bY (s[k+n]'h)=false from λh=>absurd h cg)
    all_goals
     have ax:0<n:=aj.o;have K:=ae (bL.CR.symm.trans (xf (f:=s.size - k) (acc:=acc) al bL.skip aA.o HA.o M.o));have s2:=λW=>gD (b:=b) (o:=o) L ax hn W;have c2:=λ(cs:Array Value) (t:TypeId)=>jI (bP.on (IK.alloc (.cells cs t))) (k:=k) (n:=n) (cap - k) hn;go_wp2_with(fail);refine(mw (s.extract k (k+n)) _).mono ?_;rintro e aT ⟨rfl,bw⟩;clear s2 c2;have d:r4 wr aT 1 0 k:=by
      have e1:Ext wr aT:=(IK.alloc _).trans bw;have av:=(an.new wr 181 #[.int .i64 1,.string ⟨#[]⟩,.int .i64 0,.int .i64 k]).aj bw;exact⟨Fr.ext e1,av,av.lt⟩
     clear bw;have N:=ae d;obtain⟨Z,aq,ar⟩:=d.blk.two;clear d;have aC:hz (s.extract k (k+n))=c5 ((s.data.toList.drop k).take n):=by unfold hz;rw[fT]
     rw[aC];clear aC;have hlen:((s.data.toList.drop k).take n).length=n:=by simp;omega
     by_cases aY:c5 ((s.data.toList.drop k).take n)=true
     .rw[aY] at K ⊢;have bf:=ae (K.o);clear aY hlen K;simp only[Bool.not_true,Bool.false_and,II,if_false,if_true] at bf;go_upto_region 28 with(fail);generalize hX:World.setCell aT _ _=X;have r:r4 wr X 3 0 k:=by
       exact D9
      clear hX Z aq ar;have bX:=ae r;obtain⟨bU,aW,bx⟩:=r.blk.two;clear r;by_cases bv:acc.length=4000
      .have c8:((acc.length:Int) == 4000)=true:=by simp;omega
       have V:(acc.length == 4000)=true:=by simp;omega
       have a8:=ae (bf.trans (if_pos bv));clear bv;go_wp2
       go_ret3
       exact vJ
      have c8:((acc.length:Int) == 4000)=false:=by simp;omega
      have V:(acc.length == 4000)=false:=by simp;omega
      have a8:=ae (bf.trans (if_neg bv));have Q:=ae bv;clear bv;have D:fy X b o cap s:=bP.C6 bX.below;have bl:=λW=>gD (b:=b) (o:=o) L ax hn W;have c3:=jI D (k:=k) (n:=n) (cap - k) hn;have au:=ae D;clear D;go_upto_region 31 with(fail);generalize ca:World.setCell X _ _=Y;have I:Below wr.heap.size wr Y:=ca▸bX.below.setCell (p:=⟨wr.heap.size,1,none⟩) (Hx _) _;have ah:an Y wr.heap.size 181 #[.int .i64 3,.string (s.extract k (k+n)),.int .i64 0,.int .i64 k]:=ca▸bX.blk.aI 1 _;obtain⟨aJ,aa,af⟩:=ah.two;have x:=ae I;clear ca I ah bU aW bx bl c3;go_wp2_with((at_builtin;refine cI Y ox rfl (.tmp 119) (.tmp 121) rfl w.heap.size _ _ _ #[.int .i64 3,.string (s.extract k (k+n)),.int .i64 0,.int .i64 k] rfl (b5 bL.own x.o) rfl rfl (by simp[Value.oneCell']) ad ad (Ir bL.below.size x.size) ?_;intro v2 cG E bb G;obtain⟨A2,c2,rfl,O,_⟩:=bI E));have ag:Below w.heap.size w cG:=eL (bL.below.trans (x.mono bL.below.size)) (b5 bL.own x.o) bb (Hx _) (Ir bL.below.size x.size);have ao:=ai ag E;clear ag E bb G aJ aa af;have g:=ko s b o cap (k+n) cG (H.C6 ao.1) hn;rw[Int.natCast_add] at g;refine g.mono ?_;clear g;rintro e ab ⟨rfl,rfl⟩;obtain⟨u,b7,bM,b6,bz,cx⟩:=mz s (k+n) hn;rw[cx];have bs:=ai b6 bz;clear b6 bz cx;go_wp2;go_roundw
      case rel=>
       refine⟨u,acc++[⟨3,(s.data.toList.drop k).take n,0,(k:Int)⟩],rfl,bL.next (m:=k+n) ?_ Q.o ad hn (bL.CR.trans a8.o) ao.1 b7 bM bs.1 bs.2⟩;exact vN
      case measure=>exact aF
     have ak:c5 ((s.data.toList.drop k).take n)=false:=by simpa using aY
     rw[ak] at K ⊢;by_cases ap:16<n
     .have bf:=ae (K.trans (if_pos (by rw[hlen];simp[ap])));clear aY ak hlen;go_wp2
      go_ret3
      exact j0.bad bf.o (bL.below.trans (N.below.mono bL.below.size))
     have bf:=ae (K.trans (if_neg (by rw[hlen];simp[ap])));simp only[II,if_false] at bf;clear aY ak hlen K;go_upto_region 28 with(fail);have X:World:=aT;clear X;generalize aT=X at *;have r:=N.o;clear Z aq ar;have bX:=ae r;obtain⟨bU,aW,bx⟩:=r.blk.two;clear r;by_cases bv:acc.length=4000
     .have c8:((acc.length:Int) == 4000)=true:=by simp;omega
      have V:(acc.length == 4000)=true:=by simp;omega
      have a8:=ae (bf.trans (if_pos bv));clear bv;go_wp2
      go_ret3
      exact vJ
     have c8:((acc.length:Int) == 4000)=false:=by simp;omega
     have V:(acc.length == 4000)=false:=by simp;omega
     have a8:=ae (bf.trans (if_neg bv));have Q:=ae bv;clear bv;have D:fy X b o cap s:=bP.C6 bX.below;have bl:=λW=>gD (b:=b) (o:=o) L ax hn W;have c3:=jI D (k:=k) (n:=n) (cap - k) hn;have au:=ae D;clear D;go_upto_region 31 with(fail);generalize ca:World.setCell X _ _=Y;have I:Below wr.heap.size wr Y:=ca▸bX.below.setCell (p:=⟨wr.heap.size,1,none⟩) (Hx _) _;have ah:an Y wr.heap.size 181 #[.int .i64 1,.string (s.extract k (k+n)),.int .i64 0,.int .i64 k]:=ca▸bX.blk.aI 1 _;obtain⟨aJ,aa,af⟩:=ah.two;have x:=ae I;clear ca I ah bU aW bx bl c3;go_wp2_with((at_builtin;refine cI Y ox rfl (.tmp 119) (.tmp 121) rfl w.heap.size _ _ _ #[.int .i64 1,.string (s.extract k (k+n)),.int .i64 0,.int .i64 k] rfl (b5 bL.own x.o) rfl rfl (by simp[Value.oneCell']) ad ad (Ir bL.below.size x.size) ?_;intro v2 cG E bb G;obtain⟨A2,c2,rfl,O,_⟩:=bI E));have ag:Below w.heap.size w cG:=eL (bL.below.trans (x.mono bL.below.size)) (b5 bL.own x.o) bb (Hx _) (Ir bL.below.size x.size);have ao:=ai ag E;clear ag E bb G aJ aa af;have g:=ko s b o cap (k+n) cG (H.C6 ao.1) hn;rw[Int.natCast_add] at g;refine g.mono ?_;clear g;rintro e ab ⟨rfl,rfl⟩;obtain⟨u,b7,bM,b6,bz,cx⟩:=mz s (k+n) hn;rw[cx];have bs:=ai b6 bz;clear b6 bz cx;go_wp2;go_roundw
     case rel=>
      refine⟨u,acc++[⟨1,(s.data.toList.drop k).take n,0,(k:Int)⟩],rfl,bL.next (m:=k+n) ?_ Q.o ad hn (bL.CR.trans a8.o) ao.1 b7 bM bs.1 bs.2⟩;exact vN
     case measure=>exact aF
  have T:bO s[k]=false:=by simpa using hl
  rw[T];have az:=ae T;clear hl T;go_wp2_with(fail);refine(kz s[k] _).mono ?_;rintro e ab ⟨rfl,rfl⟩;by_cases hd:bp s[k]=true
  .rw[hd];have ay:=ae hd;clear hd b1;go_wp2_with(fail)
   go_loop [8] (λe=>∃n:Nat,k+n<=s.size/\e=.int .i64 ((k:Int)+(n:Int))/\((s.data.toList.drop k).take n).all bp=true) (λe=>s.size+1 - (intOf e).toNat)
   case atStart=>exact⟨0,ad,by simp,by simp⟩
   case round=>
    obtain⟨n,hn,rfl,y⟩:=hrel;have HA:=ae y;clear y;have t1:((k:Int)+(n:Int)).toNat=k+n:=ad;have aG:(0:Int)<=(k:Int)+(n:Int):=ad;by_cases cg:k+n<s.size
    case' pos=>
     have cj:=aw.o (k+n) cg #[.int .i64 0,.string ⟨#[]⟩,.int .i64 0,.int .i64 k] 181;have R:(k:Int)+(n:Int)<(s.size:Int):=ad;go_wp2_with(fail);refine(kz s[k+n] _).mono ?_;rintro e ab ⟨rfl,rfl⟩;by_cases bJ:bp s[k+n]=true
     .rw[bJ];have cP:=ae (ov (p:=bp) cg HA.o bJ);clear bJ;go_wp2
      go_round
      case rel=>exact⟨n+1,ad,by simp;omega,cP.o⟩
      case measure=>exact aF
     have C:bp s[k+n]=false:=by simpa using bJ
     rw[C];have aj:=ae (show 0<n from by
      rcases Nat.eq_zero_or_pos n with h0|h0
      .subst h0;simp only[Ij] at C;rw[ay.o] at C;cases C
      .exact h0)
     have M:=ae (show ∀h:k+n<s.size,bp (s[k+n]'h)=false from λ_=>C);clear bJ C cj
    case' neg=>
     have R:decide ((k:Int)+(n:Int)<(s.size:Int))=false:=by simp;omega
     have aj:=ae (show 0<n by omega);have M:=ae (show ∀h:k+n<s.size,bp (s[k+n]'h)=false from λh=>absurd h cg)
    all_goals
     have ax:0<n:=aj.o;have K:=ae (bL.CR.symm.trans (Br (f:=s.size - k) (acc:=acc) al bL.skip az.o ay.o HA.o M.o));have s2:=λW=>gD (b:=b) (o:=o) L ax hn W;go_wp2_with(fail);refine(uD s b o cap k n (cap - k) _ (bP.on (IK.alloc _)) hn HA.o).mono ?_;rintro e ab ⟨rfl,rfl⟩;clear s2;generalize nQ ((s.data.toList.drop k).take n)=v at *;by_cases bC:v<0
     .have bf:=ae (K.trans (if_pos bC));have aK:decide (v<0)=true:=by simpa using bC
      clear K;go_wp2
      go_ret3
      exact j0.bad bf.o (bL.below.trans (((Below.refl _ _).alloc (Hx _) _).mono bL.below.size))
     have bf:=ae (K.trans (if_neg bC));have aK:decide (v<0)=false:=by simpa using bC
     clear K bC;go_upto_region 28 with(fail);generalize hX:World.alloc wr _=X;have r:r4 wr X 2 v k:=by
      rw[<-hX];exact⟨(Below.refl _ _).alloc (Hx _) _,IL,by simp⟩
     clear hX;have bX:=ae r;obtain⟨bU,aW,bx⟩:=r.blk.two;clear r;by_cases bv:acc.length=4000
     .have c8:((acc.length:Int) == 4000)=true:=by simp;omega
      have V:(acc.length == 4000)=true:=by simp;omega
      have a8:=ae (bf.trans (if_pos bv));clear bv;go_wp2
      go_ret3
      exact vJ
     have c8:((acc.length:Int) == 4000)=false:=by simp;omega
     have V:(acc.length == 4000)=false:=by simp;omega
     have a8:=ae (bf.trans (if_neg bv));have Q:=ae bv;clear bv;have D:fy X b o cap s:=bP.C6 bX.below;have bl:=λW=>gD (b:=b) (o:=o) L ax hn W;have c3:=jI D (k:=k) (n:=n) (cap - k) hn;have au:=ae D;clear D;go_upto_region 31 with(fail);generalize ca:World.setCell X _ _=Y;have I:Below wr.heap.size wr Y:=ca▸bX.below.setCell (p:=⟨wr.heap.size,1,none⟩) (Hx _) _;have ah:an Y wr.heap.size 181 #[.int .i64 2,.string (s.extract k (k+n)),.int .i64 v,.int .i64 k]:=ca▸bX.blk.aI 1 _;obtain⟨aJ,aa,af⟩:=ah.two;have x:=ae I;clear ca I ah bU aW bx bl c3;go_wp2_with((at_builtin;refine cI Y ox rfl (.tmp 119) (.tmp 121) rfl w.heap.size _ _ _ #[.int .i64 2,.string (s.extract k (k+n)),.int .i64 v,.int .i64 k] rfl (b5 bL.own x.o) rfl rfl (by simp[Value.oneCell']) ad ad (Ir bL.below.size x.size) ?_;intro v2 cG E bb G;obtain⟨A2,c2,rfl,O,_⟩:=bI E));have ag:Below w.heap.size w cG:=eL (bL.below.trans (x.mono bL.below.size)) (b5 bL.own x.o) bb (Hx _) (Ir bL.below.size x.size);have ao:=ai ag E;clear ag E bb G aJ aa af;have g:=ko s b o cap (k+n) cG (H.C6 ao.1) hn;rw[Int.natCast_add] at g;refine g.mono ?_;clear g;rintro e ab ⟨rfl,rfl⟩;obtain⟨u,b7,bM,b6,bz,cx⟩:=mz s (k+n) hn;rw[cx];have bs:=ai b6 bz;clear b6 bz cx;go_wp2;go_roundw
     case rel=>
      refine⟨u,acc++[⟨2,(s.data.toList.drop k).take n,v,(k:Int)⟩],rfl,bL.next (m:=k+n) ?_ Q.o ad hn (bL.CR.trans a8.o) ao.1 b7 bM bs.1 bs.2⟩;exact vN
     case measure=>exact aF
  have z:bp s[k]=false:=by simpa using hd
  rw[z];have aE:=ae z;clear hd z b1;go_wp2_with(fail);refine(BZ s b o cap k _ (bP.on (IK.alloc _)) al).mono ?_;rintro e aT ⟨rfl,bw⟩;have d:r4 wr aT 0 0 k:=by
   have e1:Ext wr aT:=(IK.alloc _).trans bw;have av:=(an.new wr 181 #[.int .i64 0,.string ⟨#[]⟩,.int .i64 0,.int .i64 k]).aj bw;exact⟨Fr.ext e1,av,av.lt⟩
  clear bw;have N:=ae d;obtain⟨Z,aq,ar⟩:=d.blk.two;clear d;have K:=ae (bL.CR.symm.trans (xe (f:=s.size - k) (acc:=acc) al bL.skip az.o aE.o));have cb:=BY (s.data.toList.drop k) (by rw[cN al];simp);rw[l0] at cb;generalize eI (s.data.toList.drop k)=n at *;have hn:k+n<=s.size:=ad;by_cases bi:n=0
  .have bZ:(((k:Int)+(n:Int)) == (k:Int))=true:=by simp;omega
   have bf:=ae (K.trans (if_pos bi));have bu:(n:Int)=0:=ad;subst bi;clear K bZ bu;go_wp2
   go_ret3
   exact j0.bad bf.o (bL.below.trans ((N.below.setCell (p:=⟨wr.heap.size,0,none⟩) (Hx _) _).mono bL.below.size))
  have bZ:(((k:Int)+(n:Int)) == (k:Int))=false:=by simp;omega
  have bf:=ae (K.trans (if_neg bi));have ax:0<n:=ad;clear K bi;go_upto_region 28 with(fail);generalize hX:World.setCell aT _ _=X;have r:r4 wr X 4 0 k:=by
   exact D9
  clear hX Z aq ar;have bX:=ae r;obtain⟨bU,aW,bx⟩:=r.blk.two;clear r;by_cases bv:acc.length=4000
  .have c8:((acc.length:Int) == 4000)=true:=by simp;omega
   have V:(acc.length == 4000)=true:=by simp;omega
   have a8:=ae (bf.trans (if_pos bv));clear bv;go_wp2
   go_ret3
   exact vJ
  have c8:((acc.length:Int) == 4000)=false:=by simp;omega
  have V:(acc.length == 4000)=false:=by simp;omega
  have a8:=ae (bf.trans (if_neg bv));have Q:=ae bv;clear bv;have D:fy X b o cap s:=bP.C6 bX.below;have bl:=λW=>gD (b:=b) (o:=o) L ax hn W;have c3:=jI D (k:=k) (n:=n) (cap - k) hn;have au:=ae D;clear D;go_upto_region 31 with(fail);generalize ca:World.setCell X _ _=Y;have I:Below wr.heap.size wr Y:=ca▸bX.below.setCell (p:=⟨wr.heap.size,1,none⟩) (Hx _) _;have ah:an Y wr.heap.size 181 #[.int .i64 4,.string (s.extract k (k+n)),.int .i64 0,.int .i64 k]:=ca▸bX.blk.aI 1 _;obtain⟨aJ,aa,af⟩:=ah.two;have x:=ae I;clear ca I ah bU aW bx bl c3;go_wp2_with((at_builtin;refine cI Y ox rfl (.tmp 119) (.tmp 121) rfl w.heap.size _ _ _ #[.int .i64 4,.string (s.extract k (k+n)),.int .i64 0,.int .i64 k] rfl (b5 bL.own x.o) rfl rfl (by simp[Value.oneCell']) ad ad (Ir bL.below.size x.size) ?_;intro v2 cG E bb G;obtain⟨A2,c2,rfl,O,_⟩:=bI E));have ag:Below w.heap.size w cG:=eL (bL.below.trans (x.mono bL.below.size)) (b5 bL.own x.o) bb (Hx _) (Ir bL.below.size x.size);have ao:=ai ag E;clear ag E bb G aJ aa af;have g:=ko s b o cap (k+n) cG (H.C6 ao.1) hn;rw[Int.natCast_add] at g;refine g.mono ?_;clear g;rintro e ab ⟨rfl,rfl⟩;obtain⟨u,b7,bM,b6,bz,cx⟩:=mz s (k+n) hn;rw[cx];have bs:=ai b6 bz;clear b6 bz cx;go_wp2;go_roundw
  case rel=>
   refine⟨u,acc++[⟨4,(s.data.toList.drop k).take n,0,(k:Int)⟩],rfl,bL.next (m:=k+n) ?_ Q.o ad hn (bL.CR.trans a8.o) ao.1 b7 bM bs.1 bs.2⟩;exact vN
  case measure=>exact aF
end Go.Proofs.YtajlmkkidmjgoaaGreatDoor
