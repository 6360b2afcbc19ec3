/- Part 8 of the proof. No condition of its own. -/
import Derived.Test.YtpkfopfkdgkfkaaGreatQ02
namespace Go.Proofs.YtpkfopfkdgkfkaaGreat
open Go.RowKit Go.Proofs.Tryz
set_option maxRecDepth 1000000
set_option maxHeartbeats 25600000
set_option linter.unusedVariables false
variable{s:ByteArray}{d:Int}{acc:List Tok}{l:List UInt8}{b cap f k n o:Nat}{c x:UInt8}{p:UInt8->Bool}{ab w:World}
theorem l7(c:UInt8)(w:World):Calls prog 106 #[.int .u8 c.toNat] w λe ab=>e=.returned (.bool (bZ c))/\w=ab:=by
 go_enter func106,ntmps106;go_wp2
 all_goals
  go_ret;refine⟨ret_bool ?_,rfl⟩;rw[Bool.eq_iff_iff];simp[bZ];omega
theorem k4(c:UInt8)(w:World):Calls prog 107 #[.int .u8 c.toNat] w λe ab=>e=.returned (.bool (bB c))/\w=ab:=by
 go_enter func107,ntmps107;go_wp2
 all_goals
  go_ret;refine⟨ret_bool ?_,rfl⟩;rw[Bool.eq_iff_iff];simp[bB];omega
theorem tt{x:ByteArray}(h:x≠s):(x.toList == s.toList)=false:=by
 refine beq_eq_false_iff_ne.2 λe=>h ?_;rw[ByteArray.ext_iff];rw[Go.Lib.toList_data,Go.Lib.toList_data] at e;exact Array.toList_inj.1 e
def hasB(l:Mu)(s:ByteArray):Bool:=l.any λx=>decide (x=s)
theorem yR{l:Mu}(h:∀(j:Nat) (x:ByteArray),l[j]?=some x->x≠s):hasB l s=false:=by
 unfold hasB;rw[List.any_eq_false];exact Ag
theorem yS{l:Mu}{j:Nat}(h:l[j]?=some s):hasB l s=true:=by
 unfold hasB;rw[List.any_eq_true];exact⟨s,LN h,by simp⟩
theorem oV(A:Mt)(n c:Nat)(l:Mu)(s:ByteArray)(w:World)(h:cw (EF oB) 1 w w.heap.size A n l)(hn:n<=1000000) :
  Calls prog 136 #[.slice A n c,s] w λe ab=>e=.returned (.bool (hasB l s))/\w=ab:=by
 have H:=ae h;clear h;go_enter func136,ntmps136;go_wp2
 go_loop [5] (λi=>∃k:Nat,k<=n/\i=.int .i64 k/\∀(j:Nat) (x:ByteArray),j<k->l[j]?=some x->x≠s) (λi=>n - (intOf i).toNat)
 case atStart=>exact⟨0,Md _,rfl,λj x h=>ad⟩
 case round=>
  obtain⟨k,aj,rfl,bi⟩:=hrel;have bX:=ae bi;clear bi;by_cases an:k<n
  .obtain⟨b,o,x,rfl,O,hx,hc⟩:=H.str an;have aN:=ae hx;clear hx;by_cases hs:x=s
   .subst hs;go_wp2;go_ret;exact⟨ret_bool (yS aN.o).symm,rfl⟩
   .have q:=tt hs;have bt:=ae hs;clear hs;go_wp2
    go_round
    case rel=>exact⟨k+1,ad,by go_num,λj y bd bb=>by
     by_cases ag:j=k
     .subst ag;rw[aN.o] at bb;injection bb with bb;subst bb;exact bt.o
     .exact bX.o j y ad bb⟩
    case measure=>exact aH
  .have a8:k=n:=ad;have da:=ae a8;clear a8;go_wp2;go_ret;exact⟨ret_bool (yR λj x bd=>bX.o j x (by have:=(List.getElem?_eq_some_iff.1 bd).1;have:=H.1;have:=da.o;omega) bd).symm,rfl⟩
theorem mT(w:World)(cs:Array Value)(t:TypeId)(l:Mu)(hc:cs=(l.map Value.string).toArray)(hl:l.length=n):cw (EF oB) 1 (w.alloc (.cells cs t)) (w.alloc (.cells cs t)).heap.size (some ⟨w,0,none⟩) n l:=by
 subst hc;refine⟨hl,λ_=>⟨w,0,rfl,by simp,λk x hx=>⟨oB x,rfl,rfl,λj v bd=>?_⟩⟩⟩;have aV:j=0/\v=.string x:=by
  exact z4
 obtain⟨rfl,rfl⟩:=aV;rw[(au.new w t _).cell];simp[hx]
def strOf(l:List UInt8):ByteArray:=⟨l.toArray⟩
theorem mK(L:List (List UInt8))(s:ByteArray):hasB (L.map strOf) s=decide (s.data.toList∈L):=by
 unfold hasB;rw[Bool.eq_iff_iff,List.any_eq_true,Ml];constructor
 .rintro⟨x,hx,he⟩;obtain⟨y,bb,rfl⟩:=Mf.1 hx;simp only[Ml] at he;subst he;exact bb
 .intro h;refine⟨strOf s.data.toList,Mf.2 ⟨_,h,rfl⟩,?_⟩;simp[strOf]
def iw(s:ByteArray):Bool:=dA s.data.toList
theorem m0(s:ByteArray)(w:World):Calls prog 108 #[s] w λe ab=>e=.returned (.bool (iw s))/\Ext w ab:=by
 go_enter func108,ntmps108;go_wp2_with(fail);refine(oV _ 11 11 (tB.map strOf) s _ (mT w _ _ _ rfl rfl) ad).mono ?_;rintro e ab ⟨rfl,rfl⟩;go_wp2;go_ret;exact⟨ret_bool (mK _ _),Mo.alloc _⟩
def jK(s:ByteArray):Bool:=bD s.data.toList
theorem rR(hx:l[k]?=some x)(hl:bZ x=false)(aj:k=0\/bB x=false):bD l=false:=by
 cases l with
 | nil=>simp at hx
 | cons c l=>
  unfold bD;simp only[Bool.and_eq_false_iff];left;left
  cases k with
  | zero=>
   simp at hx;subst hx
   exact .inl hl
  | succ k=>
   right;rw[List.getElem?_cons_succ] at hx;have hd:=aj.resolve_left ad;rw[List.all_eq_false];exact⟨x,LN hx,by simp[ck,hl,hd]⟩
theorem wN(h:∀(j:Nat) (x:UInt8),l[j]?=some x->bZ x=true\/(0<j/\bB x=true)):bD l=(decide (1<=l.length) && decide (l.length<=16) && !dA l):=by
 cases l with
 | nil=>rfl
 | cons c l=>
  have h0:=(h 0 c rfl).resolve_right ad;have y:l.all ck=true:=by
   rw[List.all_eq_true];intro x hx;obtain⟨j,bd⟩:=List.getElem?_of_mem hx;have:=h (j+1) x (by rw[List.getElem?_cons_succ];exact bd);unfold ck;rcases this with ac|ac<;>simp[ac]
  unfold bD;simp[h0,y]
theorem byte_at(h:k<s.size):s.data.toList[k]?=some s[k]:=by
 rw[List.getElem?_eq_getElem (by simpa using h)];rfl
theorem hk(s:ByteArray)(w:World)(hs:s.size<=1000000):Calls prog 67 #[s] w λe ab=>e=.returned (.bool (jK s))/\Ext w ab:=by
 go_enter func67,ntmps67;go_wp2
 go_loop [3] (λi=>∃k:Nat,k<=s.size/\i=.int .i64 k/\∀(j:Nat) (x:UInt8),j<k->s.data.toList[j]?=some x->bZ x=true\/(0<j/\bB x=true)) (λi=>s.size - (intOf i).toNat)
 case atStart=>exact⟨0,Md _,rfl,λj x h=>ad⟩
 case round=>
  obtain⟨k,aj,rfl,bi⟩:=hrel;have bX:=ae bi;clear bi;by_cases an:k<s.size
  .have I:=ae (byte_at an);have step:(bZ s[k]=true\/(0<k/\bB s[k]=true))->∀(j:Nat) (x:UInt8),j<k+1->s.data.toList[j]?=some x->bZ x=true\/(0<j/\bB x=true):=by
    intro h j x bd hx;by_cases ag:j=k
    .subst ag;rw[I.o] at hx;injection hx with hx;subst hx;exact h
    .exact bX.o j x ad hx
   have bt:=ae step;clear step;go_wp2_with(fail);refine(l7 s[k] w).mono ?_;rintro e ab ⟨rfl,rfl⟩;by_cases hl:bZ s[k]=true
   .rw[hl];have b6:=ae hl;clear hl;go_wp2
    go_round
    case rel=>exact⟨k+1,ad,by go_num,bt.o (.inl b6.o)⟩
    case measure=>exact aH
   .have ao:bZ s[k]=false:=by simpa using hl
    rw[ao];have b6:=ae ao;clear hl ao;by_cases bp:k=0
    .have da:=ae bp;subst bp;go_wp2;go_ret;exact⟨ret_bool (rR I.o b6.o (.inl rfl)).symm,Mo⟩
    .have q:((k:Int) == 0)=false:=by simpa using bp
     have z:(k == 0)=false:=by simpa using bp
     have da:=ae bp;clear bp;go_wp2_with(fail);refine(k4 s[k] w).mono ?_;rintro e ab ⟨rfl,rfl⟩;by_cases hd:bB s[k]=true
     .rw[hd];have b4:=ae hd;clear hd;go_wp2
      go_round
      case rel=>exact⟨k+1,ad,by go_num,bt.o (.inr ⟨by have:=da.o;omega,b4.o⟩)⟩
      case measure=>exact aH
     .have u:bB s[k]=false:=by simpa using hd
      rw[u];have b4:=ae u;clear hd u;go_wp2;go_ret;exact⟨ret_bool (rR I.o b6.o (.inr b4.o)).symm,Mo⟩
  .have a8:k=s.size:=ad;have m:jK s=(decide (1<=s.size) && decide (s.size<=16) && !iw s):=by
    have:=wN (l:=s.data.toList) (λj x hx=>bX.o j x (by have:=(List.getElem?_eq_some_iff.1 hx).1;simp at this;rw[a8];exact this) hx);simpa[jK,iw] using this
   have I:=ae m;subst a8;clear m;by_cases ac:1<=s.size/\s.size<=16
   .have q1:decide ((s.size:Int)>=1)=true:=by simp;omega
    have cJ:decide ((s.size:Int)<=16)=true:=by simp;omega
    have a3:=ae (show jK s=!iw s by rw[I.o];simp[ac]);clear ac;go_wp2_with(fail);refine(m0 s w).mono ?_;rintro e ab ⟨rfl,O⟩;have b9:=ae O;clear O;go_wp2;go_ret;exact⟨ret_bool a3.symm,b9.o⟩
   .have a3:=ae (show jK s=false by rw[I.o];simp;omega);by_cases ap:1<=s.size
    .have q1:decide ((s.size:Int)>=1)=true:=by simp;omega
     have cJ:decide ((s.size:Int)<=16)=false:=by simp;omega
     clear ac ap;go_wp2;go_ret;exact⟨ret_bool a3.symm,Mo⟩
    .have q1:decide ((s.size:Int)>=1)=false:=by simp;omega
     clear ac ap;go_wp2;go_ret;exact⟨ret_bool a3.symm,Mo⟩
structure fF(w:World)(b o cap:Nat)(s:ByteArray):Prop where
 bytes:Lib.Bytes w b o s
 lt:b<w.heap.size
 fit:s.size<=cap
 small:s.size<=1000000
theorem fF.on(h:fF w b o cap s)(O:Ext w ab):fF ab b o cap s:=
 ⟨λi aX=>(O.cell h.lt (λh=>h)).trans (h.bytes i aX),LL h.lt O.size,h.fit,h.small⟩
theorem gy(s:ByteArray)(j n:Nat):(s.extract j (j+n)).data.toList=(s.data.toList.drop j).take n:=by
 rw[Lib.extract_data,Nat.add_sub_cancel_left]
theorem xh(s:ByteArray):strOf s.data.toList=s:=by
 unfold strOf;cases s
 simp
theorem nQ(hc:s.size<=cap)(hn:0<n)(aj:k+n<=s.size)(W:World):
  (Instr.slice 87 (.slice (some ⟨b,o,none⟩) s.size cap) (some (.int .i64 (k:Int))) (some (.int .i64 ((k:Int)+(n:Int)))) none).run prog W=.ok (.slice (some ⟨b,o+k,none⟩) n (cap - k)) W:=by
 have:=Lib.run_slice_window (P:=prog) W 87 5 Tryz.underlying87 (λw=>by kernel_rfl) b o s.size cap k (k+n) ad ad;rw[show k+n - k=n by omega,Int.natCast_add] at this;exact this
theorem kh(h:fF w b o cap s)(c:Nat)(aj:k+n<=s.size):
  (convert 87 9 (.slice (some ⟨b,o+k,none⟩) n c)).run prog w=.ok (.string (s.extract k (k+n))) w:=
 Lib.run_convert_window w _ _ _ Tryz.underlying87 Tryz.underlying5 Tryz.underlying9 b o s h.bytes k n c aj
theorem Fl(s:ByteArray)(b o cap k:Nat)(w:World)(h:fF w b o cap s)(aj:k<s.size) :
  Calls prog 115 #[.slice (some ⟨b,o,none⟩) s.size cap,k] w λe ab=>e=.returned (.int .i64 (fi (s.data.toList.drop k)))/\Ext w ab:=by
 have H:=ae h;have U:=h.small;have M:=h.fit;have s1:=λW=>nQ (b:=b) (o:=o) h.fit (k:=k) (n:=1) ad ad W;have bT:∀W,Ext w W->∀(cs:Array Value) (t:TypeId),(convert 87 9 (.slice (some ⟨b,o+k,none⟩) 1 (cap - k))).run prog (W.alloc (.cells cs t))=.ok (.string (s.extract k (k+1))) (W.alloc (.cells cs t)):=λW ba cs t=>kh (h.on (ba.alloc (.cells cs t))) (k:=k) (n:=1) (cap - k) ad;have ao:=ae bT;clear bT;have b8:(0:Int)<=(k:Int):=ad;clear h;by_cases ap:k+1<s.size
 .have s2:=λW=>nQ (b:=b) (o:=o) M (k:=k) (n:=2) ad ad W;have c2:=λ(cs:Array Value) (t:TypeId)=>kh (H.on (Mo.alloc (.cells cs t))) (k:=k) (n:=2) (cap - k) ad;simp only[Int.cast_ofNat_Int] at s1 s2;go_enter func115,ntmps115;go_wp2_with(fail);refine(oV _ 6 6 (fE.map strOf) _ _ (mT w _ _ _ rfl rfl) ad).mono ?_;rintro e ab ⟨rfl,rfl⟩;rw[mK,gy];have bc:decide (2<=(s.data.toList.drop k).length)=true:=by simp;omega
  by_cases hm:(s.data.toList.drop k).take 2∈fE
  .have a3:=ae (show fi (s.data.toList.drop k)=2 by unfold fi;rw[decide_eq_true hm,bc];rfl);rw[decide_eq_true hm];clear hm bc;exact vr
  .have a3:=ae (show fi (s.data.toList.drop k)=if decide ((s.data.toList.drop k).take 1∈eX) then 1 else 0 by unfold fi;rw[decide_eq_false hm];rfl);rw[decide_eq_false hm];clear hm bc c2 s2;generalize ba:World.alloc w _=W;have aw:=aU ba;have c1:=ao.o W aw;clear ba;go_wp2_with(fail);refine(oV _ 17 17 (eX.map strOf) _ _ (mT W _ _ _ rfl rfl) ad).mono ?_;rintro e ab ⟨rfl,rfl⟩;rw[mK,gy];by_cases hm:(s.data.toList.drop k).take 1∈eX
   .rw[decide_eq_true hm] at a3 ⊢;exact Ai
   .rw[decide_eq_false hm] at a3 ⊢;exact Ai
 .have bc:decide (2<=(s.data.toList.drop k).length)=false:=by simp;omega
  have c9:decide ((k:Int)+1<(s.size:Int))=false:=by simp;omega
  have dk:¬(k:Int)+1<(s.size:Int):=ad;have a3:=ae (show fi (s.data.toList.drop k)=if decide ((s.data.toList.drop k).take 1∈eX) then 1 else 0 by unfold fi;rw[bc,Bool.and_false];rfl);simp only[Int.cast_ofNat_Int] at s1;clear bc;go_enter func115,ntmps115;have c1:=ao.o w Mo;go_wp2_with(fail);refine(oV _ 17 17 (eX.map strOf) _ _ (mT w _ _ _ rfl rfl) ad).mono ?_;rintro e ab ⟨rfl,rfl⟩;rw[mK,gy];by_cases hm:(s.data.toList.drop k).take 1∈eX
  .rw[decide_eq_true hm] at a3 ⊢;clear hm;exact vr
  .rw[decide_eq_false hm] at a3 ⊢;clear hm;exact vr
theorem fF.byte(h:fF w b o cap s)(aj:k<s.size):w.cell? ⟨b,o+k,none⟩=some (.int .u8 (s[k].toNat:Int)):=h.bytes k aj
theorem de(h:k<s.size):s.data.toList.drop k=s[k]::s.data.toList.drop (k+1):=by
 rw[List.drop_eq_getElem_cons (by simpa using h)];rfl
theorem qW(c:UInt8):pj c=true↔c.toNat=32\/c.toNat=9\/c.toNat=10\/c.toNat=13:=by
 simp only[pj,Bool.or_eq_true,beq_iff_eq,<-UInt8.toNat_inj];show ((c.toNat=32\/c.toNat=9)\/c.toNat=10)\/c.toNat=13↔_
 omega
theorem oP(c:UInt8):c=47↔c.toNat=47:=by rw[<-UInt8.toNat_inj];rfl
theorem xX(c:UInt8):c=10↔c.toNat=10:=by rw[<-UInt8.toNat_inj];rfl
theorem lv(h:pj c=true):aT false (c::l)=aT false l:=by rw[aT,if_pos h]
theorem nL(h:pj c=false)(ap:¬(c=47/\l.head?=some 47)):aT false (c::l)=c::l:=by rw[aT,if_neg (by simp[h]),if_neg ap]
theorem yj(h:c≠10):aT true (c::l)=aT true l:=by rw[aT,if_neg h]
theorem Fo(h:c=47)(ap:l.head?=some 47):aT false (c::l)=aT true (c::l):=by
 subst h;have a:aT false (47::l)=aT true l:=by rw[aT,if_neg (by decide),if_pos ⟨rfl,ap⟩]
 exact a.trans (yj (by decide)).symm
theorem Fq:aT true (10::l)=aT false (10::l):=by
 have a:aT true (10::l)=aT false l:=by rw[aT,if_pos rfl]
 exact a.trans (lv (by decide)).symm
theorem Fp(b:Bool):aT b []=[]:=by cases b<;>rfl
theorem kW(s:ByteArray)(b o cap k:Nat)(w:World)(h:fF w b o cap s)(aj:k<=s.size) :
  Calls prog 113 #[.slice (some ⟨b,o,none⟩) s.size cap,k] w λe ab=>e=.returned (.int .i64 ((s.size:Int) - (aT false (s.data.toList.drop k)).length))/\w=ab:=by
 have H:=ae h;have U:=h.small;clear h;go_enter func113,ntmps113;go_wp2
 go_loop [1] (λi=>∃j:Nat,j<=s.size/\i=.int .i64 j/\aT false (s.data.toList.drop k)=aT false (s.data.toList.drop j)) (λi=>s.size - (intOf i).toNat)
 case atStart=>exact⟨k,aj,rfl,rfl⟩
 case round=>
  obtain⟨j,bd,rfl,g⟩:=hrel;have t:=ae g;clear g;by_cases an:j<s.size
  .have hc:=H.byte an;have ax:(0:Int)<=(j:Int):=ad;have bu:(j:Int)<(s.size:Int):=ad;by_cases aE:s[j].toNat=32
   .have E:(((s[j].toNat:Nat):Int) == 32)=true:=by simp[aE]
    have ah:=ae (t.trans ((congrArg _ (de an)).trans (lv ((qW _).2 ad))));clear aE;go_wp2
    go_round
    case rel=>exact⟨j+1,ad,by go_num,ah.o⟩
    case measure=>exact aH
   by_cases Z:s[j].toNat=9
   .have cP:(((s[j].toNat:Nat):Int) == 9)=true:=by simp[Z]
    have q:(((s[j].toNat:Nat):Int) == 32)=false:=by simp;omega
    have ah:=ae (t.trans ((congrArg _ (de an)).trans (lv ((qW _).2 ad))));clear Z aE;go_wp2
    go_round
    case rel=>exact⟨j+1,ad,by go_num,ah.o⟩
    case measure=>exact aH
   by_cases c:s[j].toNat=10
   .have FM:(((s[j].toNat:Nat):Int) == 10)=true:=by simp[c]
    have q:(((s[j].toNat:Nat):Int) == 32)=false:=by simp;omega
    have A:(((s[j].toNat:Nat):Int) == 9)=false:=by simp;omega
    have ah:=ae (t.trans ((congrArg _ (de an)).trans (lv ((qW _).2 ad))));clear c aE Z;go_wp2
    go_round
    case rel=>exact⟨j+1,ad,by go_num,ah.o⟩
    case measure=>exact aH
   by_cases n:s[j].toNat=13
   .have D:(((s[j].toNat:Nat):Int) == 13)=true:=by simp[n]
    have q:(((s[j].toNat:Nat):Int) == 32)=false:=by simp;omega
    have A:(((s[j].toNat:Nat):Int) == 9)=false:=by simp;omega
    have u:(((s[j].toNat:Nat):Int) == 10)=false:=by simp;omega
    have ah:=ae (t.trans ((congrArg _ (de an)).trans (lv ((qW _).2 ad))));clear n aE Z c;go_wp2
    go_round
    case rel=>exact⟨j+1,ad,by go_num,ah.o⟩
    case measure=>exact aH
   have q:(((s[j].toNat:Nat):Int) == 32)=false:=by simp;omega
   have A:(((s[j].toNat:Nat):Int) == 9)=false:=by simp;omega
   have u:(((s[j].toNat:Nat):Int) == 10)=false:=by simp;omega
   have C:(((s[j].toNat:Nat):Int) == 13)=false:=by simp;omega
   have od:pj s[j]=false:=by
    cases hw:pj s[j] with
    | false=>rfl
    | true=>have:=(qW _).1 hw;omega
   have aU:=ae od;clear od aE Z c n;have d:∀l:List UInt8,l=s.data.toList.drop j->((s.size:Int) - l.length)=j:=λl hl=>by subst hl;simp;omega
   by_cases ap:j+1<s.size
   .have cb:=H.byte ap;have bp:((j+1:Nat):Int)=(j:Int)+1:=ad;have dA:decide ((j:Int)+1<(s.size:Int))=true:=by simp;omega
    by_cases a:s[j].toNat=47
    .have y:(((s[j].toNat:Nat):Int) == 47)=true:=by simp[a]
     by_cases f:s[j+1].toNat=47
     .have z:(((s[j+1].toNat:Nat):Int) == 47)=true:=by simp[f]
      have bU:=ae (show aT false (s.data.toList.drop k)=aT true (s.data.toList.drop j) by
       rw[t.o,de an];refine Fo ((oP _).2 a) ?_;rw[de ap,List.head?_cons,(oP _).2 f])
      have bX:=ae (show s[j].toNat≠10 by omega);clear a f;go_wp2
      go_loop [1] (λi=>∃m:Nat,j<=m/\m<=s.size/\i=.int .i64 m/\aT false (s.data.toList.drop k)=aT true (s.data.toList.drop m)) (λi=>s.size - (intOf i).toNat)
      case atStart=>exact⟨j,LK _,bd,rfl,bU.o⟩
      case round=>
       obtain⟨m,B,hm,rfl,P⟩:=hrel;have cU:=ae P;clear P;by_cases cj:m<s.size
       .have x:=H.byte cj;have cK:(0:Int)<=(m:Int):=ad;have cp:(m:Int)<(s.size:Int):=ad;by_cases c:s[m].toNat=10
        .have FM:(((s[m].toNat:Nat):Int) != 10)=false:=by simp[c]
         have bn:m≠j:=by
          rintro rfl;exact bX.o c
         have br:=ae (show aT false (s.data.toList.drop k)=aT false (s.data.toList.drop m) by rw[cU.o,de cj,(xX _).2 c];exact Fq);clear c;go_wp2
         go_round
         case rel=>exact⟨m,hm,rfl,br.o⟩
         case measure=>exact aH
        .have FM:(((s[m].toNat:Nat):Int) != 10)=true:=by simp;omega
         have br:=ae (show aT false (s.data.toList.drop k)=aT true (s.data.toList.drop (m+1)) by rw[cU.o,de cj];exact yj (λh=>c ((xX _).1 h)));clear c;go_wp2
         go_round
         case rel=>exact⟨m+1,ad,ad,by go_num,br.o⟩
         case measure=>exact aH
       .have v:m=s.size:=ad;have br:=ae (show aT false (s.data.toList.drop k)=aT false (s.data.toList.drop m) by
         rw[cU.o,v,Mk (by simp)];rfl)
        clear v;go_wp2
        go_round
        case rel=>exact⟨m,hm,rfl,br.o⟩
        case measure=>exact aH
     .have z:(((s[j+1].toNat:Nat):Int) == 47)=false:=by simp;omega
      have a3:=ae (d _ (t.trans ((congrArg _ (de an)).trans ((nL aU.o (by
       rintro⟨_,h⟩;rw[de ap,List.head?_cons] at h;injection h with h;exact f ((oP _).1 h))).trans (de an).symm))))
      clear a f d;go_wp2;go_ret;exact⟨ret_int a3.symm,rfl⟩
    .have y:(((s[j].toNat:Nat):Int) == 47)=false:=by simp;omega
     have a3:=ae (d _ (t.trans ((congrArg _ (de an)).trans ((nL aU.o (λh=>a ((oP _).1 h.1))).trans (de an).symm))));clear a d;go_wp2;go_ret;exact⟨ret_int a3.symm,rfl⟩
   .have dA:decide ((j:Int)+1<(s.size:Int))=false:=by simp;omega
    have a3:=ae (d _ (t.trans ((congrArg _ (de an)).trans ((nL aU.o (by
     rintro⟨_,h⟩;rw[Mk (by simp;omega)] at h;cases h)).trans (de an).symm))))
    clear ap d;go_wp2;go_ret;exact⟨ret_int a3.symm,rfl⟩
  .have r:j=s.size:=ad;have a3:=ae (show (s.size:Int) - (aT false (s.data.toList.drop k)).length=s.size by rw[t.o,r,Mk (by simp)];simp[Fp]);subst r;go_wp2;go_ret;exact⟨ret_int a3.symm,rfl⟩
theorem uu(h:(x.toNat:Int)=d+48)(v:Int)(l:List UInt8):iN v (x::l)=if (9223372036854775807 - d) / 10<v then -1 else iN (10*v+d) l:=by
 simp only[iN];rw[h,show d+48 - 48=d by omega]
theorem y5{v:Int}(h:v<=(9223372036854775807 - d) / 10)(hd:0<=d/\d<=9)(bE:0<=v):0<=10*v+d/\10*v+d<=9223372036854775807:=ad
theorem wQ(s:ByteArray)(b o cap k n c:Nat)(w:World)(h:fF w b o cap s)(aj:k+n<=s.size)(hd:((s.data.toList.drop k).take n).all bB=true) :
  Calls prog 114 #[.slice (some ⟨b,o+k,none⟩) n c] w λe ab=>e=.returned (.int .i64 (oF ((s.data.toList.drop k).take n)))/\w=ab:=by
 have H:=ae h;have U:=h.small;have b4:=ae hd;clear h hd;go_enter func114,ntmps114;go_wp2
 go_loop [3,4] (λa i=>∃(j:Nat) (v:Int),j<=n/\0<=v/\v<=9223372036854775807/\a=.int .i64 v/\i=.int .i64 j/\iN v (((s.data.toList.drop k).take n).drop j)=oF ((s.data.toList.drop k).take n)) (λ_ i=>n - (intOf i).toNat)
 case atStart=>exact⟨0,0,Md _,ad,ad,rfl,rfl,rfl⟩
 case round=>
  obtain⟨j,v,bd,r,dy,rfl,rfl,g⟩:=hrel;have t:=ae g;clear g;by_cases an:j<n
  .have hc:=H.byte (k:=k+j) ad;rw[<-Nat.add_assoc] at hc;have f:((s.data.toList.drop k).take n)[j]?=some s[k+j]:=by
    rw[List.getElem?_take_of_lt an,List.getElem?_drop];exact byte_at ad
   have m:bB s[k+j]=true:=List.all_eq_true.1 b4.o _ (LN f);have q:48<=s[k+j].toNat/\s[k+j].toNat<=57:=by simpa[bB] using m
   have br:((s.data.toList.drop k).take n).drop j=s[k+j]::((s.data.toList.drop k).take n).drop (j+1):=by
    have hl:=(List.getElem?_eq_some_iff.1 f)
    rw[List.drop_eq_getElem_cons hl.1,hl.2]
   have aN:=ae (t.symm.trans (congrArg (iN v) br));clear f m br;generalize s[k+j]=x at *;obtain⟨d,l⟩:∃d:Int,(x.toNat:Int)=d+48:=⟨(x.toNat:Int) - 48,ad⟩
   rw[l] at hc;have Y:=ae l;have d0:0<=d:=ad;have d1:d<=9:=ad;clear l q;by_cases bz:(9223372036854775807 - d) / 10<v
   .have a3:=ae (aN.trans ((uu Y.o v _).trans (if_pos bz)));go_wp2;go_ret;exact⟨ret_int a3.symm,rfl⟩
   .have a3:=ae (aN.trans ((uu Y.o v _).trans (if_neg bz)));have b9:=ae (y5 ad ⟨d0,d1⟩ r);go_wp2
    go_round
    case rel=>exact⟨j+1,10*v+d,ad,b9.1,b9.2,rfl,by go_num,a3.symm⟩
    case measure=>exact aH
  .have u:j=n:=ad;have a3:=ae (show v=oF ((s.data.toList.drop k).take n) by
    rw[<-t.o,u,Mk (by simp;omega)];rfl)
   clear u;go_wp2;go_ret;exact⟨ret_int a3.o,rfl⟩
def q6(t:Tok):List Value:=[.int .i64 t.kind,.string (strOf t.text),.int .i64 t.num,.int .i64 t.pos]
theorem EM(l:List Tok):∀x∈l,(q6 x).length=4:=λ_ _=>rfl
theorem lG(l:List Tok)(x:Tok):(l++[x]).flatMap q6=l.flatMap q6++q6 x:=by
 rw[List.flatMap_append];simp
theorem pF:cn prog 157 188 (.agg #[(0:Int),Mq,(0:Int),(0:Int)]) 4 40:=cn.mk' Tryz.underlying157 (by kernel_rfl) rfl ad
theorem fF.Gx(h:fF w b o cap s)(O:Below w w ab):fF ab b o cap s:=h.on (Fr.of O)
def kD(w:World)(r:List Tok×Int×Int)(e:Ending)(ab:World):Prop:=
 ∃A n c,e=.returned (.tuple #[.slice A n c,.int .i64 r.2.1,.int .i64 r.2.2])/\n<=c/\cw (EF q6) 4 ab ab.heap.size A n r.1/\Below w.heap.size w ab
theorem kD.bad{p q:Int}{r:List Tok×Int×Int}(a5:r=([],p,q))(O:Below w w ab):kD w r (.returned (.tuple #[(),p,q])) ab:=by
 subst a5;exact⟨none,0,0,rfl,LK _,cw.bS _,O⟩
structure tE(w wr:World)(s:ByteArray)(k:Nat)(acc:List Tok)(out:Value):Prop where
 own:wr.ownsRow w.heap.size 188 4 out acc.length (acc.flatMap q6)
 ja:acc.length<=4000
 le:k<=s.size
 skip:aT false (s.data.toList.drop k)=s.data.toList.drop k
 Gh:fK (s.size - k+1) s.size (s.data.toList.drop k) acc=dE s.data.toList
 below:Below w.heap.size w wr
theorem mC(s:ByteArray)(k:Nat):(s.data.toList.drop k).length=s.size - k:=by simp
theorem hz:∀(b:Bool) (l:List UInt8),∃n,aT b l=l.drop n/\n<=l.length
 | b,[]=>⟨0,by cases b<;>rfl,LK _⟩
 | true,c::l=>by
  by_cases h:c=10
  .obtain⟨n,ac,ap⟩:=hz false l;exact⟨n+1,by rw[aT,if_pos h,ac];rfl,by simp;omega⟩
  .obtain⟨n,ac,ap⟩:=hz true l
   exact⟨n+1,by rw[aT,if_neg h,ac];rfl,by simp;omega⟩
 | false,c::l=>by
  by_cases h:pj c=true
  .obtain⟨n,ac,ap⟩:=hz false l;exact⟨n+1,by rw[aT,if_pos h,ac];rfl,by simp;omega⟩
  .by_cases ap:c=47/\l.head?=some 47
   .obtain⟨n,ac,aV⟩:=hz true l;exact⟨n+1,by rw[aT,if_neg h,if_pos ap,ac];rfl,by simp;omega⟩
   .exact⟨0,by rw[aT,if_neg h,if_neg ap];rfl,by simp⟩
theorem ix:∀(b:Bool) (l:List UInt8),aT false (aT b l)=aT b l
 | b,[]=>by cases b<;>rfl
 | true,c::l=>by
  rw[aT];split
  .exact ix false l
  .exact ix true l
 | false,c::l=>by
  by_cases h:pj c=true
  .rw[lv h];exact ix false l
  .by_cases ap:c=47/\l.head?=some 47
   .have e:aT false (c::l)=aT true l:=by rw[aT,if_neg h,if_pos ap]
    rw[e];exact ix true l
   .have e:aT false (c::l)=c::l:=by rw[aT,if_neg h,if_neg ap]
    rw[e,e]
theorem m2(s:ByteArray)(m:Nat)(hm:m<=s.size):∃k,m<=k/\k<=s.size/\aT false (s.data.toList.drop m)=s.data.toList.drop k/\aT false (s.data.toList.drop k)=s.data.toList.drop k/\(s.size:Int) - (aT false (s.data.toList.drop m)).length=k:=by
 obtain⟨n,ac,ap⟩:=hz false (s.data.toList.drop m);have hl:(s.data.toList.drop m).length=s.size - m:=by simp
 refine⟨m+n,ad,ad,?_,?_,?_⟩
 .rw[ac,List.drop_drop]
 .rw[<-List.drop_drop,<-ac];exact ix _ _
 .rw[ac,List.length_drop,hl];omega
theorem rP(f n:Nat)(l:List UInt8)(acc:List Tok):fK f n l acc=fK f n (aT false l) acc:=by
 cases f with
 | zero=>rfl
 | succ f=>unfold fK;rw[ix]
theorem lj:∀(f g n:Nat) (l:List UInt8) (acc:List Tok),l.length<f->l.length<g->fK f n l acc=fK g n l acc
 | 0,g,n,l,acc,h,_=>ad
 | f+1,0,n,l,acc,_,h=>ad
 | f+1,g+1,n,l,acc,J,aR=>by
  unfold fK;have hs:=jO false l
  cases aj:aT false l with
  | nil=>rfl
  | cons c r=>
   rw[aj] at hs;simp only[LZ] at hs;have e1:∀p:UInt8->Bool,p c=true->((c::r).dropWhile p).length<f/\((c::r).dropWhile p).length<g:=λp hp=>by
    have:((c::r).dropWhile p).length<=r.length:=by
     rw[List.dropWhile_cons,if_pos hp];have:=(List.dropWhile_sublist p (l:=r)).length_le;exact this
    omega
   have e2:∀k,k≠0->((c::r).drop k).length<f/\((c::r).drop k).length<g:=λk aj=>by
    simp only[List.length_drop,LZ];omega
   simp only[];by_cases hl:bZ c=true
   .simp only[hl,if_true];have G:ck c=true:=by simp[ck,hl]
    rw[lj f g n _ _ (e1 _ G).1 (e1 _ G).2]
   .simp only[hl,Mm,if_false];by_cases hd:bB c=true
    .simp only[hd,if_true];rw[lj f g n _ _ (e1 _ hd).1 (e1 _ hd).2]
    .simp only[hd,Mm,if_false];by_cases aL:fi (c::r)=0
     .simp only[aL,if_true]
     .simp only[aL,if_false];rw[lj f g n _ _ (e2 _ aL).1 (e2 _ aL).2]
theorem tE.next{wr b:World}{m F:Nat}{out a:Value}{t:Tok}(h:tE w wr s k acc out)
  (ao:b.ownsRow w.heap.size 188 4 a (acc.length+1) (acc.flatMap q6++q6 t)) (hn:acc.length≠4000) (M:k<m) (hm:m<=s.size)
  (he:fK (s.size - k+1) s.size (s.data.toList.drop k) acc=fK (s.size - k) s.size (s.data.toList.drop m) (acc++[t])) (O:Below w w b)
  (ce:m<=F) (cu:F<=s.size) (cq:aT false (s.data.toList.drop m)=s.data.toList.drop F) (bS:aT false (s.data.toList.drop F)=s.data.toList.drop F):tE w b s F (acc++[t]) a:=by
 have J:=h.ja;refine⟨by rw[lG,LM];exact ao,by simp;omega,cu,bS,?_,O⟩;rw[<-h.Gh,he,rP (s.size - k),cq];exact Ah
theorem wC(s:ByteArray)(hs:s.size<=262144)(ac:aT false (s.data.toList.drop 0)=s.data.toList.drop k):fK (s.size - k+1) s.size (s.data.toList.drop k) []=dE s.data.toList:=by
 have hl:s.data.toList.length=s.size:=by simp
 have g:aT false s.data.toList=s.data.toList.drop k:=by simpa using ac
 unfold dE;rw[hl,if_neg ad,rP (s.size+1),g];exact Ah
theorem EN(f n:Nat)(acc:List Tok):fK (f+1) n [] acc=(acc++[⟨5,[],0,(n:Int)⟩],(n:Int),0):=by simp[fK,aT]
theorem uT:s.data.toList.drop k=(s.data.toList.drop k).take n++s.data.toList.drop (k+n):=by
 rw[<-List.drop_drop,List.take_append_drop]
theorem rS(h:∀hl:k+n<s.size,p (s[k+n]'hl)=false):∀c,(s.data.toList.drop (k+n)).head?=some c->p c=false:=by
 intro c hc;by_cases hl:k+n<s.size
 .rw[de hl] at hc;simp at hc;subst hc;exact h hl
 .rw[Mk (by simp;omega)] at hc;cases hc
theorem s5(h:k<s.size):((s.size:Nat):Int) - ((s.data.toList.drop (k+1)).length+1)=(k:Int):=by rw[mC];omega
theorem yX(aj:k<s.size)(g:aT false (s.data.toList.drop k)=s.data.toList.drop k)(hl:bZ s[k]=true)(y:((s.data.toList.drop k).take n).all ck=true)
  (d:∀h:k+n<s.size,ck (s[k+n]'h)=false) :
  fK (f+1) s.size (s.data.toList.drop k) acc=if (!dA ((s.data.toList.drop k).take n) && decide (16<((s.data.toList.drop k).take n).length))=true then ([],(k:Int),3)
   else if acc.length=4000 then ([],(k:Int),3) else fK f s.size (s.data.toList.drop (k+n)) (acc++[⟨if dA ((s.data.toList.drop k).take n) then 3 else 1,(s.data.toList.drop k).take n,0,(k:Int)⟩]):=by
 have e:=hi y (rS d);rw[<-uT] at e;rw[fK,g];rw[de aj] at e ⊢;simp only[hl,if_true,e.1,e.2,s5 aj]
theorem EO(aj:k<s.size)(g:aT false (s.data.toList.drop k)=s.data.toList.drop k)(hl:bZ s[k]=false)(hd:bB s[k]=true)(y:((s.data.toList.drop k).take n).all bB=true)
  (d:∀h:k+n<s.size,bB (s[k+n]'h)=false) :
  fK (f+1) s.size (s.data.toList.drop k) acc=if oF ((s.data.toList.drop k).take n)<0 then ([],(k:Int),2)
   else if acc.length=4000 then ([],(k:Int),3) else fK f s.size (s.data.toList.drop (k+n)) (acc++[⟨2,(s.data.toList.drop k).take n,oF ((s.data.toList.drop k).take n),(k:Int)⟩]):=by
 have e:=hi y (rS d);rw[<-uT] at e;rw[fK,g];rw[de aj] at e ⊢;simp only[hl,hd,Mm,if_false,if_true,e.1,e.2,s5 aj]
theorem yW(aj:k<s.size)(g:aT false (s.data.toList.drop k)=s.data.toList.drop k)(hl:bZ s[k]=false)(hd:bB s[k]=false):
  fK (f+1) s.size (s.data.toList.drop k) acc=if fi (s.data.toList.drop k)=0 then ([],(k:Int),1)
   else if acc.length=4000 then ([],(k:Int),3) else fK f s.size (s.data.toList.drop (k+fi (s.data.toList.drop k))) (acc++[⟨4,(s.data.toList.drop k).take (fi (s.data.toList.drop k)),0,(k:Int)⟩]):=by
 have ap:s.data.toList.drop (k+fi (s.data.toList.drop k))=(s.data.toList.drop k).drop (fi (s.data.toList.drop k)):=by rw[List.drop_drop]
 rw[ap,fK,g];rw[de aj];simp only[hl,hd,Mm,if_false,s5 aj]
theorem Fk(l:List UInt8)(h:l≠[]):fi l<=l.length:=by
 unfold fi
 have:1<=l.length:=by cases l with
  | nil=>exact absurd rfl h
  | cons=>simp
 split
 .rename_i ah;simp only[LY,Ml] at ah;exact ah.2
 .split<;>omega
theorem pC(hl:k+n<s.size)(h:((s.data.toList.drop k).take n).all p=true)(hp:p (s[k+n]'hl)=true):((s.data.toList.drop k).take (n+1)).all p=true:=by
 have aR:(s.data.toList.drop k)[n]?=some (s[k+n]'hl):=by rw[List.getElem?_drop];exact byte_at hl
 rw[aY aR,List.all_append,h];simp[hp]
theorem ha(hc:s.size<=cap)(hn:0<n)(aj:k+n<=s.size)(W:World):
  (Instr.slice 87 (.slice (some ⟨b,o,none⟩) s.size cap) (some (.int .i64 (k:Int))) (some (.int .i64 ((k:Int)+(n:Int)))) none).run prog W=.ok (.slice (some ⟨b,o+k,none⟩) n (cap - k)) W:=nQ hc hn aj W
theorem ri(s:ByteArray)(k n:Nat):strOf ((s.data.toList.drop k).take n)=s.extract k (k+n):=by rw[<-gy,xh]
structure tH(wr X:World)(kind num:Int)(k:Nat):Prop where
 below:Below wr.heap.size wr X
 blk:au X wr.heap.size 188 #[.int .i64 kind,.string ⟨#[]⟩,.int .i64 num,.int .i64 k]
 lt:wr.heap.size<X.heap.size
theorem x6(s:ByteArray)(b o cap:Nat)(w:World)(h:fF w b o cap s)(hs:s.size<=262144) :
  Calls prog 69 #[.slice (some ⟨b,o,none⟩) s.size cap] w (kD w (dE s.data.toList)):=by
 have H:=ae h;have M:=h.fit;clear h;go_enter func69,ntmps69;go_wp2_with(fail);refine(show Calls prog 113 #[.slice (some ⟨b,o,none⟩) s.size cap,(0:Int)] _ _ from kW s b o cap 0 _ H.o (Md _)).mono ?_;rintro e ab ⟨rfl,rfl⟩;obtain⟨dg,_,bp,ac,ap,aV⟩:=m2 s 0 (Md _);rw[aV];have bn:=ae (show tE w w s dg [] (.slice none 0 0) from ⟨⟨by simp,.inl ⟨rfl,rfl⟩⟩,by simp,bp,ap,wC s hs ac,Below.refl _ _⟩);clear ac ap aV;go_wp2_with(fail);go_loopw [5,6] (λout i wr=>∃(k:Nat) (acc:List Tok),i=.int .i64 k/\tE w wr s k acc out) (λ_ i _=>s.size+1 - (intOf i).toNat)
 case atStart=>exact⟨dg,[],rfl,bn.o⟩
 case round=>
  obtain⟨k,acc,rfl,bD⟩:=hrel;have b6:=ae bD;clear bn bp;obtain⟨A,c,az,bm,_,_,_⟩:=bT bD.own;subst az;have I:=bD.ja;have hle:=bD.le;clear bD;by_cases an:k<s.size
  case neg=>
   have bM:k=s.size:=ad;have q:((k:Int) == (s.size:Int))=true:=by simp;omega
   have a3:=ae (show dE s.data.toList=(acc++[⟨5,[],0,(s.size:Int)⟩],(s.size:Int),0) by
    rw[<-b6.Gh,bM,Mk (by simp)];exact EN _ _ _)
   subst bM;go_wp2_with((at_builtin;refine cN wr pF rfl (.tmp 21) (.tmp 24) rfl w _ _ _ #[(5:Int),Mq,(0:Int),.int .i64 s.size] rfl b6.own rfl rfl (by simp[Value.oneCell']) ad ad b6.below.size ?_;intro v2 aT S al E;obtain⟨A2,c2,rfl,P,_⟩:=bT S))
   go_ret3
   rw[a3.o];refine⟨A2,acc.length+1,c2,rfl,P,jN (l:=acc++[⟨5,[],0,(s.size:Int)⟩]) (by rw[lG];exact S) (EM _) (by simp),?_⟩;exact gd b6.below b6.own al (LK _) b6.below.size
  have q:((k:Int) == (s.size:Int))=false:=by simp;omega
  have hc:=H.Gx b6.below;have aC:=hc.byte an;have aD:=hc.lt;have T:∀(j:Nat) (bd:j<s.size) (cs:Array Value) (t:TypeId),(wr.alloc (.cells cs t)).cell? ⟨b,o+j,none⟩=some (.int .u8 (s[j].toNat:Int)):=λj bd cs t=>(hc.on (Mo.alloc _)).byte bd;obtain⟨bU,ar⟩:=aJ hc T;have cK:=T k an #[(0:Int),Mq,(0:Int),k] 188;clear hc T;go_wp2_with(fail);refine(l7 s[k] _).mono ?_;rintro e ab ⟨rfl,rfl⟩;by_cases hl:bZ s[k]=true
  .rw[hl];have ay:=ae hl;clear hl cK;go_wp2_with(fail)
   go_loop [8] (λe=>∃n:Nat,k+n<=s.size/\e=.int .i64 ((k:Int)+(n:Int))/\((s.data.toList.drop k).take n).all ck=true) (λe=>s.size+1 - (intOf e).toNat)
   case atStart=>exact⟨0,ad,by simp,by simp⟩
   case round=>
    obtain⟨n,hn,rfl,y⟩:=hrel;have HA:=ae y;clear y;have t1:((k:Int)+(n:Int)).toNat=k+n:=ad;have ax:(0:Int)<=(k:Int)+(n:Int):=ad;by_cases aZ:k+n<s.size
    case' pos=>
     have cp:=ar.o (k+n) aZ #[(0:Int),Mq,(0:Int),k] 188;have bu:(k:Int)+(n:Int)<(s.size:Int):=ad;go_wp2_with(fail);refine(l7 s[k+n] _).mono ?_;rintro e ab ⟨rfl,rfl⟩;by_cases bc:bZ s[k+n]=true
     .rw[bc];have cT:=ae (pC (p:=ck) aZ HA.o (by simp[ck,bc]));clear bc;go_wp2
      go_round
      case rel=>exact⟨n+1,ad,by simp;omega,cT.o⟩
      case measure=>exact aH
     have ai:bZ s[k+n]=false:=by simpa using bc
     rw[ai];have L:=ae ai;clear bc ai;go_wp2_with(fail);refine(k4 s[k+n] _).mono ?_;rintro e ab ⟨rfl,rfl⟩;by_cases aR:bB s[k+n]=true
     .rw[aR];have cT:=ae (pC (p:=ck) aZ HA.o (by simp[ck,aR]));clear aR;go_wp2
      go_round
      case rel=>exact⟨n+1,ad,by simp;omega,cT.o⟩
      case measure=>exact aH
     have C:bB s[k+n]=false:=by simpa using aR
     rw[C];have G:ck s[k+n]=false:=by simp[ck,L.o,C]
     have ah:=ae (show 0<n from by
      rcases Nat.eq_zero_or_pos n with h0|h0
      .subst h0;have:=L.o;simp only[LW] at this;rw[ay.o] at this;cases this
      .exact h0)
     have O:=ae (show ∀h:k+n<s.size,ck (s[k+n]'h)=false from λ_=>G);clear aR C G cp
    case' neg=>
     have bu:decide ((k:Int)+(n:Int)<(s.size:Int))=false:=by simp;omega
     have ah:=ae (show 0<n by omega);have O:=ae (show ∀h:k+n<s.size,ck (s[k+n]'h)=false from λh=>absurd h aZ)
    all_goals
     have aM:0<n:=ah.o;have K:=ae (b6.Gh.symm.trans (yX (f:=s.size - k) (acc:=acc) an b6.skip ay.o HA.o O.o));have s2:=λW=>ha (b:=b) (o:=o) M aM hn W;have c2:=λ(cs:Array Value) (t:TypeId)=>kh (bU.on (Mo.alloc (.cells cs t))) (k:=k) (n:=n) (cap - k) hn;go_wp2_with(fail);refine(m0 (s.extract k (k+n)) _).mono ?_;rintro e aT ⟨rfl,bj⟩;clear s2 c2;have d:tH wr aT 1 0 k:=by
      have e1:Ext wr aT:=(Mo.alloc _).trans bj;have em:=(au.new wr 188 #[(1:Int),Mq,(0:Int),k]).aj bj;exact⟨Fr.ext e1,em,em.lt⟩
     clear bj;have Q:=ae d;obtain⟨aK,aj,am⟩:=d.blk.two;clear d;have aA:iw (s.extract k (k+n))=dA ((s.data.toList.drop k).take n):=by unfold iw;rw[gy]
     rw[aA];clear aA;have hlen:((s.data.toList.drop k).take n).length=n:=by simp;omega
     by_cases a5:dA ((s.data.toList.drop k).take n)=true
     .rw[a5] at K ⊢;have br:=ae (K.o);clear a5 hlen K;simp only[Bool.not_true,Bool.false_and,Mm,if_false,if_true] at br;go_upto_region 28 with(fail);generalize hX:World.setCell aT _ _=X;have r:tH wr X 3 0 k:=by
       exact zR
      clear hX aK aj am;have aa:=ae r;obtain⟨ci,bO,b5⟩:=r.blk.two;clear r;by_cases bz:acc.length=4000
      .have dk:((acc.length:Int) == 4000)=true:=by simp;omega
       have U:(acc.length == 4000)=true:=by simp;omega
       have a3:=ae (br.trans (if_pos bz));clear bz;go_wp2
       go_ret3
       exact sk
      have dk:((acc.length:Int) == 4000)=false:=by simp;omega
      have U:(acc.length == 4000)=false:=by simp;omega
      have a3:=ae (br.trans (if_neg bz));have R:=ae bz;clear bz;have D:fF X b o cap s:=bU.Gx aa.below;have dN:=λW=>ha (b:=b) (o:=o) M aM hn W;have c3:=kh D (k:=k) (n:=n) (cap - k) hn;have aq:=ae D;clear D;go_upto_region 31 with(fail);generalize co:World.setCell X _ _=Y;have z:Below wr wr Y:=co▸aa.below.setCell (p:=⟨wr,1,none⟩) (LK _) _;have af:au Y wr 188 #[(3:Int),.string (s.extract k (k+n)),(0:Int),k]:=co▸aa.blk.aN 1 _;obtain⟨bx,V,Z⟩:=af.two;have x:=ae z;clear co z af ci bO b5 dN c3;go_wp2_with((at_builtin;refine cN Y pF rfl (.tmp 119) (.tmp 121) rfl w _ _ _ #[(3:Int),.string (s.extract k (k+n)),(0:Int),k] rfl (b2 b6.own x.o) rfl rfl (by simp[Value.oneCell']) ad ad (L6 b6.below.size x.size) ?_;intro v2 c6 S al E;obtain⟨A2,c2,rfl,P,_⟩:=bT S));have bb:Below w w c6:=gd (b6.below.trans (x.mono b6.below.size)) (b2 b6.own x.o) al (LK _) (L6 b6.below.size x.size);have N:=ag bb S;clear bb S al E bx V Z;have g:=kW s b o cap (k+n) c6 (H.Gx N.1) hn;rw[Int.natCast_add] at g;refine g.mono ?_;clear g;rintro e ab ⟨rfl,rfl⟩;obtain⟨F,ce,cu,cq,bS,cQ⟩:=m2 s (k+n) hn;rw[cQ];have bt:=ag cq bS;clear cq bS cQ;go_wp2;go_roundw
      case rel=>
       refine⟨F,acc++[⟨3,(s.data.toList.drop k).take n,0,(k:Int)⟩],rfl,b6.next (m:=k+n) ?_ R.o ad hn (b6.Gh.trans a3.o) N.1 ce cu bt.1 bt.2⟩;exact sr
      case measure=>exact aH
     have J:dA ((s.data.toList.drop k).take n)=false:=by simpa using a5
     rw[J] at K ⊢;by_cases ak:16<n
     .have br:=ae (K.trans (if_pos (by rw[hlen];simp[ak])));clear a5 J hlen;go_wp2
      go_ret3
      exact kD.bad br.o (b6.below.trans (Q.below.mono b6.below.size))
     have br:=ae (K.trans (if_neg (by rw[hlen];simp[ak])));simp only[Mm,if_false] at br;clear a5 J hlen K;go_upto_region 28 with(fail);have X:World:=aT;clear X;generalize aT=X at *;have r:=Q.o;clear aK aj am;have aa:=ae r;obtain⟨ci,bO,b5⟩:=r.blk.two;clear r;by_cases bz:acc.length=4000
     .have dk:((acc.length:Int) == 4000)=true:=by simp;omega
      have U:(acc.length == 4000)=true:=by simp;omega
      have a3:=ae (br.trans (if_pos bz));clear bz;go_wp2
      go_ret3
      exact sk
     have dk:((acc.length:Int) == 4000)=false:=by simp;omega
     have U:(acc.length == 4000)=false:=by simp;omega
     have a3:=ae (br.trans (if_neg bz));have R:=ae bz;clear bz;have D:fF X b o cap s:=bU.Gx aa.below;have dN:=λW=>ha (b:=b) (o:=o) M aM hn W;have c3:=kh D (k:=k) (n:=n) (cap - k) hn;have aq:=ae D;clear D;go_upto_region 31 with(fail);generalize co:World.setCell X _ _=Y;have z:Below wr wr Y:=co▸aa.below.setCell (p:=⟨wr,1,none⟩) (LK _) _;have af:au Y wr 188 #[(1:Int),.string (s.extract k (k+n)),(0:Int),k]:=co▸aa.blk.aN 1 _;obtain⟨bx,V,Z⟩:=af.two;have x:=ae z;clear co z af ci bO b5 dN c3;go_wp2_with((at_builtin;refine cN Y pF rfl (.tmp 119) (.tmp 121) rfl w _ _ _ #[(1:Int),.string (s.extract k (k+n)),(0:Int),k] rfl (b2 b6.own x.o) rfl rfl (by simp[Value.oneCell']) ad ad (L6 b6.below.size x.size) ?_;intro v2 c6 S al E;obtain⟨A2,c2,rfl,P,_⟩:=bT S));have bb:Below w w c6:=gd (b6.below.trans (x.mono b6.below.size)) (b2 b6.own x.o) al (LK _) (L6 b6.below.size x.size);have N:=ag bb S;clear bb S al E bx V Z;have g:=kW s b o cap (k+n) c6 (H.Gx N.1) hn;rw[Int.natCast_add] at g;refine g.mono ?_;clear g;rintro e ab ⟨rfl,rfl⟩;obtain⟨F,ce,cu,cq,bS,cQ⟩:=m2 s (k+n) hn;rw[cQ];have bt:=ag cq bS;clear cq bS cQ;go_wp2;go_roundw
     case rel=>
      refine⟨F,acc++[⟨1,(s.data.toList.drop k).take n,0,(k:Int)⟩],rfl,b6.next (m:=k+n) ?_ R.o ad hn (b6.Gh.trans a3.o) N.1 ce cu bt.1 bt.2⟩;exact sr
     case measure=>exact aH
  have ao:bZ s[k]=false:=by simpa using hl
  rw[ao];have aw:=ae ao;clear hl ao;go_wp2_with(fail);refine(k4 s[k] _).mono ?_;rintro e ab ⟨rfl,rfl⟩;by_cases hd:bB s[k]=true
  .rw[hd];have av:=ae hd;clear hd cK;go_wp2_with(fail)
   go_loop [8] (λe=>∃n:Nat,k+n<=s.size/\e=.int .i64 ((k:Int)+(n:Int))/\((s.data.toList.drop k).take n).all bB=true) (λe=>s.size+1 - (intOf e).toNat)
   case atStart=>exact⟨0,ad,by simp,by simp⟩
   case round=>
    obtain⟨n,hn,rfl,y⟩:=hrel;have HA:=ae y;clear y;have t1:((k:Int)+(n:Int)).toNat=k+n:=ad;have ax:(0:Int)<=(k:Int)+(n:Int):=ad;by_cases aZ:k+n<s.size
    case' pos=>
     have cp:=ar.o (k+n) aZ #[(0:Int),Mq,(0:Int),k] 188;have bu:(k:Int)+(n:Int)<(s.size:Int):=ad;go_wp2_with(fail);refine(k4 s[k+n] _).mono ?_;rintro e ab ⟨rfl,rfl⟩;by_cases aR:bB s[k+n]=true
     .rw[aR];have cT:=ae (pC (p:=bB) aZ HA.o aR);clear aR;go_wp2
      go_round
      case rel=>exact⟨n+1,ad,by simp;omega,cT.o⟩
      case measure=>exact aH
     have C:bB s[k+n]=false:=by simpa using aR
     rw[C];have ah:=ae (show 0<n from by
      rcases Nat.eq_zero_or_pos n with h0|h0
      .subst h0;simp only[LW] at C;rw[av.o] at C;cases C
      .exact h0)
     have O:=ae (show ∀h:k+n<s.size,bB (s[k+n]'h)=false from λ_=>C);clear aR C cp
    case' neg=>
     have bu:decide ((k:Int)+(n:Int)<(s.size:Int))=false:=by simp;omega
     have ah:=ae (show 0<n by omega);have O:=ae (show ∀h:k+n<s.size,bB (s[k+n]'h)=false from λh=>absurd h aZ)
    all_goals
     have aM:0<n:=ah.o;have K:=ae (b6.Gh.symm.trans (EO (f:=s.size - k) (acc:=acc) an b6.skip aw.o av.o HA.o O.o));have s2:=λW=>ha (b:=b) (o:=o) M aM hn W;go_wp2_with(fail);refine(wQ s b o cap k n (cap - k) _ (bU.on (Mo.alloc _)) hn HA.o).mono ?_;rintro e ab ⟨rfl,rfl⟩;clear s2;generalize oF ((s.data.toList.drop k).take n)=v at *;by_cases bE:v<0
     .have br:=ae (K.trans (if_pos bE));have aE:decide (v<0)=true:=by simpa using bE
      clear K;go_wp2
      go_ret3
      exact kD.bad br.o (b6.below.trans (((Below.refl _ _).alloc (LK _) _).mono b6.below.size))
     have br:=ae (K.trans (if_neg bE));have aE:decide (v<0)=false:=by simpa using bE
     clear K bE;go_upto_region 28 with(fail);generalize hX:World.alloc wr _=X;have r:tH wr X 2 v k:=by
      rw[<-hX];exact⟨(Below.refl _ _).alloc (LK _) _,Mp,by simp⟩
     clear hX;have aa:=ae r;obtain⟨ci,bO,b5⟩:=r.blk.two;clear r;by_cases bz:acc.length=4000
     .have dk:((acc.length:Int) == 4000)=true:=by simp;omega
      have U:(acc.length == 4000)=true:=by simp;omega
      have a3:=ae (br.trans (if_pos bz));clear bz;go_wp2
      go_ret3
      exact sk
     have dk:((acc.length:Int) == 4000)=false:=by simp;omega
     have U:(acc.length == 4000)=false:=by simp;omega
     have a3:=ae (br.trans (if_neg bz));have R:=ae bz;clear bz;have D:fF X b o cap s:=bU.Gx aa.below;have dN:=λW=>ha (b:=b) (o:=o) M aM hn W;have c3:=kh D (k:=k) (n:=n) (cap - k) hn;have aq:=ae D;clear D;go_upto_region 31 with(fail);generalize co:World.setCell X _ _=Y;have z:Below wr wr Y:=co▸aa.below.setCell (p:=⟨wr,1,none⟩) (LK _) _;have af:au Y wr 188 #[(2:Int),.string (s.extract k (k+n)),v,k]:=co▸aa.blk.aN 1 _;obtain⟨bx,V,Z⟩:=af.two;have x:=ae z;clear co z af ci bO b5 dN c3;go_wp2_with((at_builtin;refine cN Y pF rfl (.tmp 119) (.tmp 121) rfl w _ _ _ #[(2:Int),.string (s.extract k (k+n)),v,k] rfl (b2 b6.own x.o) rfl rfl (by simp[Value.oneCell']) ad ad (L6 b6.below.size x.size) ?_;intro v2 c6 S al E;obtain⟨A2,c2,rfl,P,_⟩:=bT S));have bb:Below w w c6:=gd (b6.below.trans (x.mono b6.below.size)) (b2 b6.own x.o) al (LK _) (L6 b6.below.size x.size);have N:=ag bb S;clear bb S al E bx V Z;have g:=kW s b o cap (k+n) c6 (H.Gx N.1) hn;rw[Int.natCast_add] at g;refine g.mono ?_;clear g;rintro e ab ⟨rfl,rfl⟩;obtain⟨F,ce,cu,cq,bS,cQ⟩:=m2 s (k+n) hn;rw[cQ];have bt:=ag cq bS;clear cq bS cQ;go_wp2;go_roundw
     case rel=>
      refine⟨F,acc++[⟨2,(s.data.toList.drop k).take n,v,(k:Int)⟩],rfl,b6.next (m:=k+n) ?_ R.o ad hn (b6.Gh.trans a3.o) N.1 ce cu bt.1 bt.2⟩;exact sr
     case measure=>exact aH
  have u:bB s[k]=false:=by simpa using hd
  rw[u];have aB:=ae u;clear hd u cK;go_wp2_with(fail);refine(Fl s b o cap k _ (bU.on (Mo.alloc _)) an).mono ?_;rintro e aT ⟨rfl,bj⟩;have d:tH wr aT 0 0 k:=by
   have e1:Ext wr aT:=(Mo.alloc _).trans bj;have em:=(au.new wr 188 #[(0:Int),Mq,(0:Int),k]).aj bj;exact⟨Fr.ext e1,em,em.lt⟩
  clear bj;have Q:=ae d;obtain⟨aK,aj,am⟩:=d.blk.two;clear d;have K:=ae (b6.Gh.symm.trans (yW (f:=s.size - k) (acc:=acc) an b6.skip aw.o aB.o));have cg:=Fk (s.data.toList.drop k) (by rw[de an];simp);rw[mC] at cg;generalize fi (s.data.toList.drop k)=n at *;have hn:k+n<=s.size:=ad;by_cases aL:n=0
  .have bI:(((k:Int)+(n:Int)) == (k:Int))=true:=by simp;omega
   have br:=ae (K.trans (if_pos aL));have cb:(n:Int)=0:=ad;subst aL;clear K bI cb;go_wp2
   go_ret3
   exact kD.bad br.o (b6.below.trans ((Q.below.setCell (p:=⟨wr,0,none⟩) (LK _) _).mono b6.below.size))
  have bI:(((k:Int)+(n:Int)) == (k:Int))=false:=by simp;omega
  have br:=ae (K.trans (if_neg aL));have aM:0<n:=ad;clear K aL;go_upto_region 28 with(fail);generalize hX:World.setCell aT _ _=X;have r:tH wr X 4 0 k:=by
   exact zR
  clear hX aK aj am;have aa:=ae r;obtain⟨ci,bO,b5⟩:=r.blk.two;clear r;by_cases bz:acc.length=4000
  .have dk:((acc.length:Int) == 4000)=true:=by simp;omega
   have U:(acc.length == 4000)=true:=by simp;omega
   have a3:=ae (br.trans (if_pos bz));clear bz;go_wp2
   go_ret3
   exact sk
  have dk:((acc.length:Int) == 4000)=false:=by simp;omega
  have U:(acc.length == 4000)=false:=by simp;omega
  have a3:=ae (br.trans (if_neg bz));have R:=ae bz;clear bz;have D:fF X b o cap s:=bU.Gx aa.below;have dN:=λW=>ha (b:=b) (o:=o) M aM hn W;have c3:=kh D (k:=k) (n:=n) (cap - k) hn;have aq:=ae D;clear D;go_upto_region 31 with(fail);generalize co:World.setCell X _ _=Y;have z:Below wr wr Y:=co▸aa.below.setCell (p:=⟨wr,1,none⟩) (LK _) _;have af:au Y wr 188 #[(4:Int),.string (s.extract k (k+n)),(0:Int),k]:=co▸aa.blk.aN 1 _;obtain⟨bx,V,Z⟩:=af.two;have x:=ae z;clear co z af ci bO b5 dN c3;go_wp2_with((at_builtin;refine cN Y pF rfl (.tmp 119) (.tmp 121) rfl w _ _ _ #[(4:Int),.string (s.extract k (k+n)),(0:Int),k] rfl (b2 b6.own x.o) rfl rfl (by simp[Value.oneCell']) ad ad (L6 b6.below.size x.size) ?_;intro v2 c6 S al E;obtain⟨A2,c2,rfl,P,_⟩:=bT S));have bb:Below w w c6:=gd (b6.below.trans (x.mono b6.below.size)) (b2 b6.own x.o) al (LK _) (L6 b6.below.size x.size);have N:=ag bb S;clear bb S al E bx V Z;have g:=kW s b o cap (k+n) c6 (H.Gx N.1) hn;rw[Int.natCast_add] at g;refine g.mono ?_;clear g;rintro e ab ⟨rfl,rfl⟩;obtain⟨F,ce,cu,cq,bS,cQ⟩:=m2 s (k+n) hn;rw[cQ];have bt:=ag cq bS;clear cq bS cQ;go_wp2;go_roundw
  case rel=>
   refine⟨F,acc++[⟨4,(s.data.toList.drop k).take n,0,(k:Int)⟩],rfl,b6.next (m:=k+n) ?_ R.o ad hn (b6.Gh.trans a3.o) N.1 ce cu bt.1 bt.2⟩;exact sr
  case measure=>exact aH
end Go.Proofs.YtpkfopfkdgkfkaaGreat
