/- Part 4 of the proof. No condition of its own. -/
import Derived.Test.YtnigabjngpnbiaaGreatQ02
namespace Go.Proofs.YtnigabjngpnbiaaGreat
open Go.RowKit Go.Proofs.Tryz
set_option maxRecDepth 1000000
set_option maxHeartbeats 25600000
set_option linter.unusedVariables false
variable{s:ByteArray}{l:Kk}{k:Nat}
theorem k1(c:UInt8)(w:World):Calls prog 98 #[.int .u8 c.toNat] w λe J=>e=.returned (.bool (bQ c))/\w=J:=by
 go_enter func98,ntmps98;go_wp2
 all_goals
  go_ret;refine⟨ret_bool ?_,rfl⟩;rw[Bool.eq_iff_iff];simp[bQ];omega
theorem kh(c:UInt8)(w:World):Calls prog 99 #[.int .u8 c.toNat] w λe J=>e=.returned (.bool (bq c))/\w=J:=by
 go_enter func99,ntmps99;go_wp2
 all_goals
  go_ret;refine⟨ret_bool ?_,rfl⟩;rw[Bool.eq_iff_iff];simp[bq];omega
theorem rK{x:ByteArray}(h:x≠s):(x.toList == s.toList)=false:=by
 refine beq_eq_false_iff_ne.2 λe=>h ?_;rw[ByteArray.ext_iff];rw[Go.Lib.toList_data,Go.Lib.toList_data] at e;exact Array.toList_inj.1 e
def hasB(l:Kk)(s:ByteArray):Bool:=l.any λx=>decide (x=s)
theorem xb(h:∀(j:Nat) (x:ByteArray),l[j]?=some x->x≠s):hasB l s=false:=by
 unfold hasB;rw[List.any_eq_false];exact yw
theorem xc{j:Nat}(h:l[j]?=some s):hasB l s=true:=by
 unfold hasB;rw[List.any_eq_true];exact⟨s,JL h,by simp⟩
theorem nu(A:Kj)(n c:Nat)(l:Kk)(s:ByteArray)(w:World)(h:cB (EF m6) 1 w w.heap.size A n l)(hn:n<=1000000) :
  Calls prog 126 #[.slice A n c,.string s] w λe J=>e=.returned (.bool (hasB l s))/\w=J:=by
 have H:=ae h;clear h;go_enter func126,ntmps126;go_wp2
 go_loop [5] (λi=>∃k:Nat,k<=n/\i=.int .i64 k/\∀(j:Nat) (x:ByteArray),j<k->l[j]?=some x->x≠s) (λi=>n - (intOf i).toNat)
 case atStart=>exact⟨0,J4 _,rfl,λj x h=>ad⟩
 case round=>
  obtain⟨k,aj,rfl,aH⟩:=hrel;have bN:=ae aH;clear aH;by_cases aq:k<n
  .obtain⟨b,o,x,rfl,O,hx,hc⟩:=H.str aq;have aJ:=ae hx;clear hx;by_cases hs:x=s
   .subst hs;go_wp2;go_ret;exact⟨ret_bool (xc aJ.o).symm,rfl⟩
   .have q:=rK hs;have bF:=ae hs;clear hs;go_wp2
    go_round
    case rel=>exact⟨k+1,ad,by go_num,λj y be aa=>by
     by_cases z:j=k
     .subst z;rw[aJ.o] at aa;injection aa with aa;subst aa;exact bF.o
     .exact bN.o j y ad aa⟩
    case measure=>exact aU
  .have aT:k=n:=ad;have cT:=ae aT;clear aT;go_wp2;go_ret;exact⟨ret_bool (xb λj x be=>bN.o j x (by have:=(List.getElem?_eq_some_iff.1 be).1;have:=H.1;have:=cT.o;omega) be).symm,rfl⟩
theorem lS(w:World)(cs:Array Value)(t:TypeId)(l:Kk){n:Nat}(hc:cs=(l.map Value.string).toArray)(hl:l.length=n):cB (EF m6) 1 (w.alloc (.cells cs t)) (w.alloc (.cells cs t)).heap.size (some ⟨w.heap.size,0,none⟩) n l:=by
 subst hc;refine⟨hl,λ_=>⟨w.heap.size,0,rfl,by simp,λk x hx=>⟨m6 x,rfl,rfl,λj v be=>?_⟩⟩⟩;have b:j=0/\v=.string x:=by
  exact yk
 obtain⟨rfl,rfl⟩:=b;rw[(au.new w t _).cell];simp[hx]
def strOf(l:List UInt8):ByteArray:=⟨l.toArray⟩
theorem lK(L:List (List UInt8))(s:ByteArray):hasB (L.map strOf) s=decide (s.data.toList∈L):=by
 unfold hasB;rw[Bool.eq_iff_iff,List.any_eq_true,Kc];constructor
 .rintro⟨x,hx,he⟩;obtain⟨y,aa,rfl⟩:=J6.1 hx;simp only[Kc] at he;subst he;exact aa
 .intro h;refine⟨strOf s.data.toList,J6.2 ⟨_,h,rfl⟩,?_⟩;simp[strOf]
def hk(s:ByteArray):Bool:=c9 s.data.toList
theorem lX(s:ByteArray)(w:World):Calls prog 100 #[.string s] w λe J=>e=.returned (.bool (hk s))/\Ext w J:=by
 go_enter func100,ntmps100;go_wp2_with(fail);refine(nu _ 11 11 (rR.map strOf) s _ (lS w _ _ _ rfl rfl) ad).mono ?_;rintro e J ⟨rfl,rfl⟩;go_wp2;go_ret;exact⟨ret_bool (lK _ _),Kf.alloc _⟩
def iS(s:ByteArray):Bool:=bw s.data.toList
theorem ql{l:List UInt8}{x:UInt8}(hx:l[k]?=some x)(hl:bQ x=false)(aj:k=0\/bq x=false):bw l=false:=by
 cases l with
 | nil=>simp at hx
 | cons c l=>
  unfold bw;simp only[Bool.and_eq_false_iff];left;left
  cases k with
  | zero=>
   simp at hx;subst hx
   exact .inl hl
  | succ k=>
   right;rw[List.getElem?_cons_succ] at hx;have hd:=aj.resolve_left ad;rw[List.all_eq_false];exact⟨x,JL hx,by simp[cb,hl,hd]⟩
theorem uA{l:List UInt8}(h:∀(j:Nat) (x:UInt8),l[j]?=some x->bQ x=true\/(0<j/\bq x=true)):bw l=(decide (1<=l.length) && decide (l.length<=16) && !c9 l):=by
 cases l with
 | nil=>rfl
 | cons c l=>
  have h0:=(h 0 c rfl).resolve_right ad;have aP:l.all cb=true:=by
   rw[List.all_eq_true];intro x hx;obtain⟨j,be⟩:=List.getElem?_of_mem hx;have:=h (j+1) x (by rw[List.getElem?_cons_succ];exact be);unfold cb;rcases this with ac|ac<;>simp[ac]
  unfold bw;simp[h0,aP]
theorem byte_at(h:k<s.size):s.data.toList[k]?=some s[k]:=by
 rw[List.getElem?_eq_getElem (by simpa using h)];rfl
theorem gz(s:ByteArray)(w:World)(hs:s.size<=1000000):Calls prog 105 #[.string s] w λe J=>e=.returned (.bool (iS s))/\Ext w J:=by
 go_enter func105,ntmps105;go_wp2
 go_loop [3] (λi=>∃k:Nat,k<=s.size/\i=.int .i64 k/\∀(j:Nat) (x:UInt8),j<k->s.data.toList[j]?=some x->bQ x=true\/(0<j/\bq x=true)) (λi=>s.size - (intOf i).toNat)
 case atStart=>exact⟨0,J4 _,rfl,λj x h=>ad⟩
 case round=>
  obtain⟨k,aj,rfl,aH⟩:=hrel;have bN:=ae aH;clear aH;by_cases aq:k<s.size
  .have cO:=ae (byte_at aq);have step:(bQ s[k]=true\/(0<k/\bq s[k]=true))->∀(j:Nat) (x:UInt8),j<k+1->s.data.toList[j]?=some x->bQ x=true\/(0<j/\bq x=true):=by
    intro h j x be hx;by_cases z:j=k
    .subst z;rw[cO.o] at hx;injection hx with hx;subst hx;exact h
    .exact bN.o j x ad hx
   have bF:=ae step;clear step;go_wp2_with(fail);refine(k1 s[k] w).mono ?_;rintro e J ⟨rfl,rfl⟩;by_cases hl:bQ s[k]=true
   .rw[hl];have bW:=ae hl;clear hl;go_wp2
    go_round
    case rel=>exact⟨k+1,ad,by go_num,bF.o (.inl bW.o)⟩
    case measure=>exact aU
   .have bO:bQ s[k]=false:=by simpa using hl
    rw[bO];have bW:=ae bO;clear hl bO;by_cases F:k=0
    .have cT:=ae F;subst F;go_wp2;go_ret;exact⟨ret_bool (ql cO.o bW.o (.inl rfl)).symm,Kf⟩
    .have q:((k:Int) == 0)=false:=by simpa using F
     have ao:(k == 0)=false:=by simpa using F
     have cT:=ae F;clear F;go_wp2_with(fail);refine(kh s[k] w).mono ?_;rintro e J ⟨rfl,rfl⟩;by_cases hd:bq s[k]=true
     .rw[hd];have M:=ae hd;clear hd;go_wp2
      go_round
      case rel=>exact⟨k+1,ad,by go_num,bF.o (.inr ⟨by have:=cT.o;omega,M.o⟩)⟩
      case measure=>exact aU
     .have D:bq s[k]=false:=by simpa using hd
      rw[D];have M:=ae D;clear hd D;go_wp2;go_ret;exact⟨ret_bool (ql cO.o bW.o (.inr M.o)).symm,Kf⟩
  .have aT:k=s.size:=ad;have m:iS s=(decide (1<=s.size) && decide (s.size<=16) && !hk s):=by
    have:=uA (l:=s.data.toList) (λj x hx=>bN.o j x (by have:=(List.getElem?_eq_some_iff.1 hx).1;simp at this;rw[aT];exact this) hx);simpa[iS,hk] using this
   have cO:=ae m;subst aT;clear m;by_cases ac:1<=s.size/\s.size<=16
   .have q1:decide ((s.size:Int)>=1)=true:=by simp;omega
    have cM:decide ((s.size:Int)<=16)=true:=by simp;omega
    have a2:=ae (show iS s=!hk s by rw[cO.o];simp[ac]);clear ac;go_wp2_with(fail);refine(lX s w).mono ?_;rintro e J ⟨rfl,O⟩;have bL:=ae O;clear O;go_wp2;go_ret;exact⟨ret_bool a2.symm,bL.o⟩
   .have a2:=ae (show iS s=false by rw[cO.o];simp;omega);by_cases ap:1<=s.size
    .have q1:decide ((s.size:Int)>=1)=true:=by simp;omega
     have cM:decide ((s.size:Int)<=16)=false:=by simp;omega
     clear ac ap;go_wp2;go_ret;exact⟨ret_bool a2.symm,Kf⟩
    .have q1:decide ((s.size:Int)>=1)=false:=by simp;omega
     clear ac ap;go_wp2;go_ret;exact⟨ret_bool a2.symm,Kf⟩
end Go.Proofs.YtnigabjngpnbiaaGreat
