/- Laws 11 on states and rings: words in common. Conditions: gy of slices. -/
import Derived.Test.YtflecliffjbleaaGreatERgC
namespace Go.Proofs.YtflecliffjbleaaGreat
open Go.RowKit
set_option maxRecDepth 1000000
set_option linter.unusedVariables false
theorem same_self(A A2:Option Addr)(c c2:Nat)(L:List Int)(w:World)(h1q7:cK (EF b5) 1 w w.heap.size A L.length L)(h2q7:cK (EF b5) 1 w w.heap.size A2 L.length L)(hn:L.length<=140737488355328) :
  Calls Tryz.prog 11 #[.slice A L.length c,.slice A2 L.length c2] w λr w'=>r=.returned (.bool true)/\Ext w w':=
 (j9 A A2 _ c _ c2 L L w (h1q7.ints λb hbq7=>hbq7) (h2q7.ints λb hbq7=>hbq7) hn).mono λ_ _ h=>⟨by rw[h.1];simp,Fr.of h.2⟩
theorem dead_few{u:av}{s:ag}:(gx (aI u s)).length<=s.threads.length:=by
 unfold gx;refine Nat.le_trans (List.length_filter_le _ _) ?_;simp[dC]
theorem cyc_few{u:av}{s:ag}:(ma (aI u s)).length<=s.threads.length:=by
 rw[<-dC (u:=u) (s:=s)];unfold ma
 cases hfq7:((List.range (aI u s).length).map Int.ofNat).find? λt=>(dQ (aI u s) t).isSome with
 | none=>simp
 | some t=>
  have h2q7:=List.find?_some hfq7
  cases hc:dQ (aI u s) t with
  | none=>rw[hc] at h2q7;cases h2q7
  | some m=>
   have:=(pS hc).1;simp[hc];omega
set_option maxHeartbeats 1600000 in
theorem hasI_any(A:Option Addr)(n c:Nat)(L:List Int)(x:Int)(w:World)(h:cK (EF b5) 1 w w.heap.size A n L)(hn:n<=1000000) :
  Calls Tryz.prog 18 #[.slice A n c,.int .i64 x] w λe w'=>e=.returned (.bool (decide (x∈L)))/\w=w':=by
 have H:=ad h;clear h;go_enter Tryz.func18,Tryz.ntmps18;go_wp2
 go_loop [5] (λi=>∃k:Nat,k<=n/\i=.int .i64 k/\∀(j:Nat) (y:Int),j<k->L[j]?=some y->y≠x) (λi=>n - (intOf i).toNat)
 case atStart=>exact⟨0,Nat.zero_le _,rfl,λj x h=>ab⟩
 case round=>
  obtain⟨k,hkq7,rfl,hne⟩:=hrel;have HNq7:=ad hne;clear hne;by_cases hlt:k<n
  .obtain⟨b,o,y,rfl,hbq7,hx,hc⟩:=H.o.int hlt;have HXq7:=ad hx;clear hx;by_cases hs:y=x
   .subst hs;go_wp2;go_ret;exact⟨ret_bool (by simpa using (List.mem_of_getElem? HXq7.o)),rfl⟩
   .have q:(y == x)=false:=by simpa using hs
    have HSq7:=ad hs;clear hs;go_wp2
    go_round
    case rel=>exact⟨k+1,ab,by go_num,λj z hjq7 hyq7=>by
     by_cases hjk:j=k
     .subst hjk;rw[HXq7.o] at hyq7;injection hyq7 with hyq7;subst hyq7;exact HSq7.o
     .exact HNq7.o j z ab hyq7⟩
    case measure=>simp[intOf];omega
  .have hkn:k=n:=ab;have HKq7:=ad hkn;clear hkn;go_wp2;go_ret;exact⟨ret_bool (by
    symm
    rw[decide_eq_false_iff_not];intro hm;obtain⟨j,hjq7⟩:=List.mem_iff_getElem?.1 hm;exact HNq7.o j x (by have:=(List.getElem?_eq_some_iff.1 hjq7).1;have:=H.o.1;have:=HKq7.o;omega) hjq7 rfl),rfl⟩
theorem cK.int_at{w:World}{B n b o:Nat}{L:List Int}(h:cK (EF b5) 1 w B (some ⟨b,o,none⟩) n L){k:Nat}{x:Int}(hkq7:L[k]?=some x):w.cell? ⟨b,o+k,none⟩=some (.int .i64 x):=by
 obtain⟨b',o',y,hAq7,_,hyq7,hc⟩:=h.int (k:=k) (by have:=(List.getElem?_eq_some_iff.1 hkq7).1;have:=h.1;omega);injection hAq7 with hAq7;injection hAq7 with h1q7 h2q7;subst h1q7 h2q7;rw[hkq7] at hyq7;injection hyq7 with hyq7;rw[hyq7];exact hc
theorem cK.lt_at{w:World}{B n b o:Nat}{L:List Int}(h:cK (EF b5) 1 w B (some ⟨b,o,none⟩) n L){k:Nat}{x:Int}(hkq7:L[k]?=some x):b<B:=by
 obtain⟨b',o',y,hAq7,hbq7,_⟩:=h.int (k:=k) (by have:=(List.getElem?_eq_some_iff.1 hkq7).1;have:=h.1;omega);injection hAq7 with hAq7;injection hAq7 with h1q7 h2q7;omega
theorem cyc_waits{u:av}{s:ag}(hS:aS u 60 s){i:Nat}{x:Int}(h:(ma (aI u s))[i]?=some x):∃e o y,cR u s x=some (e,o)/\(ma (aI u s))[(i+1) % (ma (aI u s)).length]?=some o/\(ma (aI u s))[0]?=some y/\y<=x:=by
 have hl:=j3 hS;obtain⟨_,_,h2q7,y,h3q7,h4q7⟩:=IH hl h;have h0:=(IH hl h2q7).1;rw[iZ] at h2q7 h0
 cases hw:cR u s x with
 | none=>rw[hw] at h0;exact absurd h0 (by decide)
 | some r=>
  rw[hw] at h2q7;exact⟨r.1,r.2,y,rfl,h2q7,h3q7,h4q7⟩
end Go.Proofs.YtflecliffjbleaaGreat
