/- Schedules as plain functions: Useful, Trace, Fair (P10.1 to P10.3). Plain; no program. -/
import Derived.Test.YtkhnkojkplbioaaGreatQ47
namespace Go.Proofs.YtkhnkojkplbioaaGreat
def traceS(u:ay):ai->List Int->List ai
 | s,[]=>[s]
 | s,t::l=>s::traceS u (aV u s t).1 l
def fairS(u:ay):Nat->ai->ai×List Int
 | 0,s=>(s,[])
 | r+1,s=>((fairS u r (gE u s (Ka s))).1,iU u s (Ka s)++(fairS u r (gE u s (Ka s))).2)
section
variable {u:ay} {D:Nat}
theorem run_use:∀(l:List Int) (s:ai),gE u s (iU u s l)=gE u s l
 | [],_=>rfl
 | t::l,s=>by
  rw[iU,qW,gE]
  cases h:(aV u s t).2 with
  | true=>rw[if_pos rfl];exact run_use l _
  | false=>
   rw[if_neg (by simp),ka h];exact run_use l s
theorem use_use:∀(l:List Int) (s:ai),iU u s (iU u s l)=iU u s l
 | [],_=>rfl
 | t::l,s=>by
  rw[iU]
  cases h:(aV u s t).2 with
  | true=>
   rw[if_pos rfl,List.singleton_append,iU,h,if_pos rfl,use_use l]
   try rfl
  | false=>
   rw[if_neg (by simp),List.nil_append,ka h];exact use_use l s
theorem step_len(s:ai)(t:Int):s.threads.length<=(aV u s t).1.threads.length:=by
 unfold aV
 cases de s t with
 | none=>exact Nat.le_refl _
 | some f=>
  cases cU u s t with
  | none=>exact Nat.le_refl _
  | some x=>
   simp only[];unfold bI;simp only[]
   repeat' split
   all_goals simp[aT,kM,qJ]
theorem step_done(s:ai)(t:Int){k:Nat}(h:s.threads[k]?=some []):(aV u s t).1.threads[k]?=some []:=by
 have hlt:=(List.getElem?_eq_some_iff.1 h).1;unfold aV
 cases hqq7:de s t with
 | none=>exact h
 | some f=>
  obtain⟨_,h0,fs,hfs⟩:=gy hqq7;have hne:t.toNat≠k:=λe=>by
   subst e;rw[h] at hfs;injection hfs with hfs;simp at hfs
  cases hx:cU u s t with
  | none=>exact h
  | some x=>
   simp only[];unfold bI;simp only[]
   repeat' split
   all_goals simp only[aT,kM,qJ]
   all_goals first
    | exact h
    | exact(h8 hne).trans h
    | (rw[h8 hne];exact(h8 hne).trans h)
    | (rw[List.getElem?_append_left (by rw[List.length_modify];omega)];exact(h8 hne).trans h)
theorem trace_len:∀(l:List Int) (s:ai),(traceS u s l).length=l.length+1
 | [],_=>rfl
 | t::l,s=>by rw[traceS,List.length_cons,trace_len l,List.length_cons]
theorem trace_at:∀(l:List Int) (s:ai) (i:Nat),i<=l.length->(traceS u s l)[i]?=some (gE u s (l.take i))
 | [],s,i,h=>by
  obtain rfl:i=0:=by simpa using h
  rfl
 | t::l,s,0,_=>rfl
 | t::l,s,i+1,h=>by
  rw[traceS,List.getElem?_cons_succ,trace_at l _ i (by simpa using h),List.take_succ_cons,gE]
theorem trace_step{l:List Int}{s:ai}{i:Nat}{t:Int}(h:l[i]?=some t):gE u s (l.take (i+1))=(aV u (gE u s (l.take i)) t).1:=by
 rw[a1 h,qW];rfl
theorem fair_run:∀(r:Nat) (s:ai),gE u s (fairS u r s).2=(fairS u r s).1
 | 0,_=>rfl
 | r+1,s=>by
  show gE u s (iU u s (Ka s)++(fairS u r (gE u s (Ka s))).2)=_
  rw[qW,run_use,fair_run r];rfl
theorem fair_use:∀(r:Nat) (s:ai),iU u s (fairS u r s).2=(fairS u r s).2
 | 0,_=>rfl
 | r+1,s=>by
  show iU u s (iU u s (Ka s)++(fairS u r (gE u s (Ka s))).2)=_
  rw[q4,run_use,use_use,fair_use r];rfl
theorem fair_snoc:∀(r:Nat) (s:ai),fairS u (r+1) s=(gE u (fairS u r s).1 (Ka (fairS u r s).1),(fairS u r s).2++iU u (fairS u r s).1 (Ka (fairS u r s).1))
 | 0,s=>by simp[fairS]
 | r+1,s=>by
  have ihq7:=fair_snoc r (gE u s (Ka s));rw[fairS,ihq7];simp only[fairS,List.append_assoc]
end
end Go.Proofs.YtkhnkojkplbioaaGreat
