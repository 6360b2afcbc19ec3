/- The search of explore: ExqP, ExqA, ExqB, ExqC, ExqM, ExqD. No condition of its own. -/
import Derived.Test.YtajlmkkidmjgoaaGreatDoorQ33
import Derived.Test.YtajlmkkidmjgoaaGreatDoorQ30
import Derived.Lib.ItoaLen
import Derived.Test.YtajlmkkidmjgoaaGreatDoorQ08
import Derived.Lib.AppendIntMem
import Derived.Lib.BufferKept
import Derived.Lib.UnsafeStr
import Derived.Lib.BufferRead
import Derived.Test.YtajlmkkidmjgoaaGreatDoorQ14
import Derived.Test.YtajlmkkidmjgoaaGreatDoorQ00
import Derived.Maps.OwnSet
import Derived.WideKeyEntry
import Derived.Test.YtajlmkkidmjgoaaGreatDoorQ23
namespace Go.Proofs.YtajlmkkidmjgoaaGreatDoor
open Go.RowKit
set_option maxRecDepth 1000000
set_option linter.unusedVariables false
section
structure KeyFits(s:ah):Prop where
 fault:Fits s.fault
 dw:∀i∈s.globals,Fits i
 Gp:∀h∈s.table,Fits h.owner/\Fits h.depth
 frm:∀t∈s.threads,∀f∈t,Fits f.proc/\Fits f.pc/\(∀i∈f.ints,Fits i)/\∀i∈f.aw,Fits i
theorem keyFits{u:ax}{N:Nat}{s:ah}(hU:cZ u)(h:aV u N s)(hN:N<=100000):KeyFits s:=by
 have hfq7:∀i:Int,0<=i->i<=1000000->Fits i:=λi h1q7 h2q7=>by unfold Fits;omega
 have he:=lv hU;refine⟨hfq7 _ h.fault.1 (aC h.fault.2),h.l9,λx hx=>?_,λt ht f hft=>?_⟩
 .obtain⟨i,hiq7⟩:=List.getElem?_of_mem hx;have h1q7:=h.holds i x hiq7;have h2q7:=h1q7.owner;have h3q7:=h1q7.depth;have h4q7:=h.xE;exact⟨hfq7 _ h2q7.1 ad,hfq7 _ h3q7.1 ad⟩
 .have h1q7:=(h.fm t ht).2 f hft;obtain⟨p,hp,h2q7,_⟩:=h1q7.ex;have h3q7:=(List.getElem?_eq_some_iff.1 hp).1;have h4q7:=hU.El;obtain⟨c,hc,hcl,_⟩:=(hU.procs p (List.mem_of_getElem? hp)).code;have h5q7:p.code.length=c.length+1:=by rw[hc];simp
  have h6q7:=h1q7.proc;have h7q7:=h1q7.pc;exact⟨hfq7 _ h6q7 ad,hfq7 _ h7q7 ad,h1q7.fits,λi hiq7=>by have:=h1q7.aw i hiq7;exact hfq7 _ this.1 ad⟩
theorem numsB_len:∀{l:List Int},(∀i∈l,Fits i)->(ha l).length<=22*l.length+1
 | [],_=>by simp[ha]
 | n::l,h=>by
  have h1q7:=numsB_len (l:=l) λi hiq7=>h i (by simp[hiq7]);have h2q7:=h n (by simp);have h3q7:=Go.Lib.itoa_length_le n h2q7.1 h2q7.2;simp only[ha,List.length_append,List.length_cons];omega
theorem flat_len{α:Type}{f:α->List UInt8}{K:Nat}:∀{l:List α},(∀x∈l,(f x).length<=K)->(l.flatMap f).length<=l.length*K
 | [],_=>by simp
 | x::l,h=>by
  have h1q7:=flat_len (l:=l) λy hyq7=>h y (by simp[hyq7]);have h2q7:=h x (by simp);simp only[List.flatMap_cons,List.length_append,List.length_cons,Nat.succ_mul];omega
theorem key_len{u:ax}{N:Nat}{s:ah}(hU:cZ u)(h:aV u N s)(hN:N<=100000):(EX s).length<=100000000000:=by
 have hkq7:=keyFits hU h hN;have h0:=numsB_len (l:=[s.fault]) λi hiq7=>by rw[List.mem_singleton.1 hiq7];exact hkq7.fault
 have h1q7:=numsB_len hkq7.dw;have h2q7:(xD s.table).length<=s.table.length*45:=flat_len λx hx=>numsB_len (l:=[x.owner,x.depth]) λi hiq7=>by
  have:=hkq7.Gp x hx;rcases List.mem_cons.1 hiq7 with rfl|hiq7
  .exact this.1
  .rw[List.mem_singleton.1 hiq7];exact this.2
 have h3q7:(s.threads.flatMap rM).length<=s.threads.length*1000000000:=flat_len λt ht=>by
  have h4q7:(t.flatMap sx).length<=t.length*8000:=flat_len λf hft=>by
   have h5q7:=hkq7.frm t ht f hft;obtain⟨p,hp,_,h6q7,h7q7⟩:=((h.fm t ht).2 f hft).ex;have hPq7:=hU.procs p (List.mem_of_getElem? hp);have h8q7:=hPq7.ints;have h9q7:=hPq7.aw;have e1:=numsB_len (l:=[f.proc,f.pc]) λi hiq7=>by
    rcases List.mem_cons.1 hiq7 with rfl|hiq7
    .exact h5q7.1
    .rw[List.mem_singleton.1 hiq7];exact h5q7.2.1
   have e2:=numsB_len h5q7.2.2.1;have e3:=numsB_len h5q7.2.2.2;simp only[List.length_cons,List.length_nil] at e1;simp only[sx,List.length_append];omega
  have:=(h.fm t ht).1;simp only[rM,List.length_cons,List.length_append,List.length_nil];omega
 have hgq7:=h.dw;have hg2:=hU.pe;have ht:=h.table;have ht2:=eZ hU.Ej;have ht3:=h.xE;simp only[EX,List.length_append];simp only[List.length_cons,List.length_nil] at h0;omega
abbrev Fd:=ah×Int×Int
structure FdOk(L:List Fd)(out:List Kn):Prop where
 len:L.length=out.length
 at_:∀(i:Nat) (s:ah) (par t:Int),L[i]?=some (s,par,t)->∃p,out[i]?=some (s,p)/\((par = -1/\p=[])\/∃(j:Nat) (k:Kn),par=(j:Nat)/\j<i/\out[j]?=some k/\p=k.2++[t])
theorem FdOk.nil:FdOk [] []:=⟨rfl,λi s par t h=>by simp at h⟩
theorem FdOk.one(s:ah)(t:Int):FdOk [(s,-1,t)] [(s,[])]:=⟨rfl,λi s' par t' h=>by
 cases i with
 | zero=>
  simp only[List.getElem?_cons_zero,Option.some.injEq,Prod.mk.injEq] at h;obtain⟨rfl,rfl,rfl⟩:=h
  exact⟨[],rfl,.inl ⟨rfl,rfl⟩⟩
 | succ i=>simp at h⟩
theorem FdOk.add{L:List Fd}{out:List Kn}(h:FdOk L out){i:Nat}{k:Kn}(hkq7:out[i]?=some k)(s:ah)(t:Int):FdOk (L++[(s,((i:Nat):Int),t)]) (out++[(s,k.2++[t])]):=by
 have hiq7:=(List.getElem?_eq_some_iff.1 hkq7).1;refine⟨by simp[h.len],λj s' par t' hjq7=>?_⟩;by_cases hlt:j<L.length
 .rw[List.getElem?_append_left hlt] at hjq7;obtain⟨p,h1q7,h2q7⟩:=h.at_ j s' par t' hjq7;refine⟨p,by rw[List.getElem?_append_left (by rw[<-h.len];exact hlt)];exact h1q7,h2q7.imp id λ⟨a,b,h3q7,h4q7,h5q7,h6q7⟩=>⟨a,b,h3q7,h4q7,by rw[List.getElem?_append_left (by rw[<-h.len];omega)];exact h5q7,h6q7⟩⟩
 .have hj2:=(List.getElem?_eq_some_iff.1 hjq7).1;simp only[List.length_append,List.length_cons,List.length_nil] at hj2;obtain rfl:j=L.length:=ad;rw[List.getElem?_append_right (Nat.le_refl _),Nat.sub_self] at hjq7;simp only[List.getElem?_cons_zero,Option.some.injEq,Prod.mk.injEq] at hjq7;obtain⟨rfl,rfl,rfl⟩:=hjq7;refine⟨k.2++[t],by rw[h.len,List.getElem?_append_right (Nat.le_refl _),Nat.sub_self];rfl,.inr ⟨i,k,rfl,by rw[h.len];exact hiq7,by rw[List.getElem?_append_left hiq7];exact hkq7,rfl⟩⟩
theorem FdOk.states{L:List Fd}{out:List Kn}(h:FdOk L out):L.map (·.1)=out.map (·.1):=by
 apply List.ext_getElem?
 intro i;rw[List.getElem?_map,List.getElem?_map]
 cases hl:L[i]? with
 | none=>
  have h1q7:=List.getElem?_eq_none_iff.1 hl;rw[h.len] at h1q7;rw[List.getElem?_eq_none_iff.2 h1q7]
  rfl
 | some x=>
  obtain⟨s,par,t⟩:=x;obtain⟨p,h1q7,_⟩:=h.at_ i s par t hl;rw[h1q7];rfl
end
section
theorem appU8:b2 Tryz.prog 95 5 (.int .u8 0) 1 1:=b2.mk' Tryz.underlying95 (by kernel_rfl) rfl ad
abbrev tenN:String:=(Rows.exploreDifferentRow.laid.map λx=>x.1).getD 2 default
abbrev TabU(B:Nat)(w:World):Prop:=Lib.TabBelow Tryz.prog B w tenN .u64 Lib.pow10Tab
def AiC:Prop:=∀(B n:Nat) (i:Int),Fits i->∀(sv:Value) (xs:List Value) (w:World),w.ownsRow B 5 1 sv n xs->B<=w.heap.size->n+21<=140737488355328->TabU B w->
 Calls Tryz.prog 120 #[sv,.int .i64 i,.int .i64 10] w λe w'=>∃v',e=.returned v'/\w'.ownsRow B 5 1 v' (n+(Lib.itoa i).length) (xs++Lib.byteCells (Lib.itoa i))/\Below B w w'/\Lib.OthersKept 5 none w w'
theorem row_kind{w:World}{B n:Nat}{e:TypeId}{v:Value}{xs:List Value}(h:w.ownsRow B e 1 v n xs):∀g,v.ownBlock=some g->∃c fz,w.heap[g]?=some (.cells c e fz):=by
 intro g hgq7;rcases h.2 with⟨rfl,_⟩|⟨g',cap,cur,rfl,_,hhq7,_⟩
 .simp[Value.ownBlock] at hgq7
 .simp only[Value.ownBlock,Option.some.injEq] at hgq7;subst hgq7;exact⟨_,_,hhq7⟩
theorem bytes_app(xs ysq7:List UInt8):Lib.byteCells xs++Lib.byteCells ysq7=Lib.byteCells (xs++ysq7):=by simp[Lib.byteCells]
set_option maxRecDepth 1000000 in
set_option maxHeartbeats 3200000 in
theorem numbers_any(hAq7:AiC)(A:Option Addr)(n c:Nat)(l:List Int)(B:Nat)(sv:Value)(xs:List UInt8)(w:World)
  (hl:∀w',Below B w w'->Lib.OthersKept 5 none w w'->cJ (EF cD) 1 w' w'.heap.size A n l) (hfq7:∀i∈l,Fits i) (hown:w.ownsRow B 5 1 sv xs.length (Lib.byteCells xs)) (hBq7:B<=w.heap.size) (hlim:xs.length+22*n+22<=140737488355328) (ht:TabU B w) :
  Calls Tryz.prog 96 #[sv,.slice A n c] w λe w'=>∃v',e=.returned v'/\w'.ownsRow B 5 1 v' (xs++ha l).length (Lib.byteCells (xs++ha l))/\Below B w w'/\Lib.OthersKept 5 none w w':=by
 have hll:l.length=n:=(hl w (Below.refl _ _) (Lib.OthersKept.refl _ _ _)).1;have HS:=ae (And.intro hAq7 (And.intro hl (And.intro hfq7 (And.intro ht (And.intro hown hll)))));clear hAq7 hl hfq7 ht hown hll;go_enter Tryz.func96,Tryz.ntmps96;go_wp2_with(fail);go_loopw [0,9] (λv ivq7 wr=>∃(i:Nat) (ysq7:List UInt8),ivq7=.int .i64 i/\i<=n/\wr.ownsRow B 5 1 v ysq7.length (Lib.byteCells ysq7)/\Below B w wr/\Lib.OthersKept 5 none w wr/\ysq7++ha (l.drop i)=xs++ha l/\ysq7.length<=xs.length+22*i) (λ_ ivq7 _=>n - (intOf ivq7).toNat)
 case atStart=>exact⟨0,xs,rfl,ad,HS.o.2.2.2.2.1,Below.refl _ _,Lib.OthersKept.refl _ _ _,rfl,ad⟩
 case round=>
  obtain⟨i,ysq7,rfl,hiq7,hown,hbq7,hkq7,heq,hlen⟩:=hrel;obtain⟨VA,vcq7,hvq7,_⟩:=bI hown;subst hvq7;have hbs:=hbq7.size;have HR:=ae (And.intro hown (And.intro hbq7 (And.intro hkq7 heq)));by_cases hlt:i<n
  .have hlt1:(i:Int)<(n:Int):=ad;obtain⟨b,o,x,rfl,hbb,hx,c0⟩:=(HS.o.2.1 wr hbq7 hkq7).int hlt;have HX:=ae (And.intro hx (HS.o.2.2.1 x (List.mem_of_getElem? hx)));clear hown hbq7 hkq7 heq hx;go_wp2_with(fail);refine(HS.o.1 B ysq7.length x HX.o.2 (.slice VA ysq7.length vcq7) _ wr HR.o.1 ad ad (HS.o.2.2.2.1.on HR.o.2.1)).mono ?_;rintro e w2q7 ⟨v2,rfl,hown2,hb2,hk2⟩;have hil:=Lib.itoa_length_le x HX.o.2.1 HX.o.2.2;obtain⟨A2,c2,hv2,_⟩:=bI hown2;subst hv2;have hs2:=hb2.size;have H2:=ae (And.intro hown2 (And.intro hb2 hk2));clear hown2 hb2 hk2 c0;go_wp2_with(at_builtin;refine cI _ appU8 rfl (.tmp 15) (.tmp 16) rfl B _ _ _ #[.int .u8 44] rfl H2.o.1 rfl rfl (by simp[Value.oneCell']) ad ad ad ?_;intro v3q7 w3q7 hown3 hg3 hat3;have H3:=ae (And.intro hown3 hg3);clear hown3 hg3 hat3);go_roundw
   case rel=>
    have hb3:Below B w w3q7:=(HR.o.2.1.trans H2.o.2.1).grown H3.o.2 ad λk hkq7=>(H2.o.1.lt k hkq7).1;refine⟨i+1,ysq7++Lib.itoa x++[44],by go_num,ad,?_,hb3,(HR.o.2.2.1.trans H2.o.2.2).grown H3.o.2 (row_kind H2.o.1),?_,?_⟩
    .have h:=H3.o.1;simpa[Lib.byteCells,List.length_append,Nat.add_assoc] using h
    .rw[<-HR.o.2.2.2];have hd:l.drop i=x::l.drop (i+1):=by
      obtain⟨hil2,hx2⟩:=List.getElem?_eq_some_iff.1 HX.o.1;rw[List.drop_eq_getElem_cons hil2,hx2]
     rw[hd];simp[ha]
    .simp only[List.length_append,List.length_cons,List.length_nil];omega
   case measure=>simp[intOf];omega
  .obtain rfl:i=n:=ad;have hlt1:¬(i:Int)<(i:Int):=ad;clear hown hbq7 hkq7 heq;go_wp2_with(at_builtin;refine cI _ appU8 rfl (.tmp 19) (.tmp 20) rfl B _ _ _ #[.int .u8 59] rfl HR.o.1 rfl rfl (by simp[Value.oneCell']) ad ad ad ?_;intro v3q7 w3q7 hown3 hg3 hat3;have H3:=ae (And.intro hown3 hg3);clear hown3 hg3 hat3);go_ret;refine⟨v3q7,rfl,?_,HR.o.2.1.grown H3.o.2 ad λk hkq7=>(HR.o.1.lt k hkq7).1,HR.o.2.2.1.grown H3.o.2 (row_kind HR.o.1)⟩;have h:=H3.o.1;have hd:l.drop i=[]:=List.drop_of_length_le (aC HS.o.2.2.2.2.2);have he:=HR.o.2.2.2;rw[hd] at he;have hl2:=congrArg List.length he;simp only[List.length_append,ha,List.length_cons,List.length_nil] at hl2;rw[<-hl2,<-he];simpa[Lib.byteCells,ha,List.length_append] using h
end
section
theorem fam_old{wr:World}{B0q7 B n:Nat}{A:Option Addr}{l:List Int}(h:cJ (EF cD) 1 wr B0q7 A n l)(hBq7:B0q7<=B)(hs:B<=wr.heap.size):∀w',Below B wr w'->Lib.OthersKept 5 none wr w'->cJ (EF cD) 1 w' w'.heap.size A n l:=λw' hbq7 _=>
 (h.eQ (hbq7.mono hBq7)).F4 (aC hbq7.size)
theorem fam_lit{wr:World}{B g:Nat}{l:List Int}{fz:Nat×Nat}(hhq7:wr.heap[g]?=some (.cells (l.map dK).toArray 3 fz)):∀w',Below B wr w'->Lib.OthersKept 5 none wr w'->cJ (EF cD) 1 w' w'.heap.size (some ⟨g,0,none⟩) l.length l:=λw' _ hkq7=>by
 have h1q7:=hkq7 g _ hhq7 (by simp) (λc f h=>by injection h with _ h;exact absurd h (by decide));have hlt:g<w'.heap.size:=(Array.getElem?_eq_some_iff.1 h1q7).1;refine⟨rfl,λ_=>⟨g,0,rfl,hlt,λi y hyq7=>⟨cD y,rfl,rfl,λj v hjq7=>?_⟩⟩⟩;have hj0:j=0:=by have:=(List.getElem?_eq_some_iff.1 hjq7).1;simp only[cD,List.length_cons,List.length_nil] at this;omega
 subst hj0;have hvq7:v=dK y:=by simpa[cD,dK] using hjq7.symm
 subst hvq7;rw[Nat.zero_add,Nat.mul_one,Nat.add_zero,World.cell?];simp[h1q7,hyq7]
end
section
structure RowU(w:World)(B:Nat)(W:World)(v:Value)(xs:List UInt8):Prop where
 own:W.ownsRow B 5 1 v xs.length (Lib.byteCells xs)
 bel:Below B w W
 kept:Lib.OthersKept 5 none w W
theorem RowU.nil{w W:World}{B:Nat}(hbq7:Below B w W)(hkq7:Lib.OthersKept 5 none w W):RowU w B W (.slice none 0 0) []:=⟨⟨by simp[Lib.byteCells],.inl ⟨rfl,rfl⟩⟩,hbq7,hkq7⟩
theorem RowU.alloc{w W:World}{B:Nat}{v:Value}{xs:List UInt8}(h:RowU w B W v xs)(hBq7:B<=W.heap.size)(o:Obj):RowU w B (W.alloc o) v xs:=⟨h.own.alloc _,h.bel.alloc hBq7 o,h.kept.alloc o⟩
structure RK(B:Nat)(a b:World):Prop where
 bel:Below B a b
 kept:Lib.OthersKept 5 none a b
theorem RK.refl{B:Nat}(a:World):RK B a a:=⟨Below.refl _ _,Lib.OthersKept.refl _ _ _⟩
theorem RK.trans{B:Nat}{a b c:World}(h:RK B a b)(k:RK B b c):RK B a c:=⟨h.bel.trans k.bel,h.kept.trans k.kept⟩
theorem RK.lit{B:Nat}{W:World}(hBq7:B<=W.heap.size)(o:Obj):RK B (World.drew W) (World.drew (World.alloc W o)):=
 ⟨show Below B (World.drew W) (World.alloc (World.drew W) o) from Below.alloc (Below.refl B (World.drew W)) (show B<=(World.drew W).heap.size from hBq7) o,show Lib.OthersKept 5 none (World.drew W) (World.alloc (World.drew W) o) from (Lib.OthersKept.refl _ _ _).alloc o⟩
theorem an.onK{a b:World}{g:Nat}{t:TypeId}{cs:Array Value}(h:an a g t cs)(k:Lib.OthersKept 5 none a b)(ht:t≠5):an b g t cs:=
 k g _ h (by simp) (λc f h=>by injection h with _ h;exact ht h)
theorem RowU.drew{w W:World}{B:Nat}{v:Value}{xs:List UInt8}(h:RowU w B W v xs):RowU w B (World.drew W) v xs:=⟨h.own,h.bel.drew,h.kept.drewN 1⟩
theorem RowU.app{w W W':World}{B:Nat}{v v':Value}{xs:List UInt8}{k:UInt8}(h:RowU w B W v xs)(hBq7:B<=W.heap.size)(hoq7:W'.ownsRow B 5 1 v' (xs.length+1) (Lib.byteCells xs++#[Value.int .u8 k.toNat].toList))(hgq7:W.grownBy W' v.ownBlock):RowU w B W' v' (xs++[k]):=
 ⟨by simpa[Lib.byteCells,List.length_append] using hoq7,h.bel.grown hgq7 hBq7 λg hgq7=>(h.own.lt g hgq7).1,h.kept.grown hgq7 (row_kind h.own)⟩
theorem num_any(hAq7:AiC){w W:World}{B n c:Nat}{A:Option Addr}{l:List Int}{v:Value}{xs:List UInt8}(h:RowU w B W v xs)(hl:∀w',Below B W w'->Lib.OthersKept 5 none W w'->cJ (EF cD) 1 w' w'.heap.size A n l)(hfq7:∀i∈l,Fits i)(hBq7:B<=w.heap.size)(hlim:xs.length+22*n+22<=140737488355328)(ht:TabU B w) :
  Calls Tryz.prog 96 #[v,.slice A n c] W λe w'=>∃v',e=.returned v'/\RowU w B w' v' (xs++ha l)/\RK B W w':=
 (numbers_any hAq7 A n c l B v xs W hl hfq7 h.own (aC h.bel.size) hlim (ht.on h.bel)).mono λe w' ⟨v',he,hoq7,hbq7,hkq7⟩=>⟨v',he,⟨hoq7,h.bel.trans hbq7,h.kept.trans hkq7⟩,⟨hbq7,hkq7⟩⟩
theorem dropL{α:Type}{l:List α}{k:Nat}{x:α}(h:l[k]?=some x):l.drop k=x::l.drop (k+1):=by
 obtain⟨hkq7,hx⟩:=List.getElem?_eq_some_iff.1 h;rw[List.drop_eq_getElem_cons hkq7,hx]
theorem len_le{ysq7 r T:List UInt8}(h:ysq7++r=T):ysq7.length<=T.length:=by rw[<-h];simp
theorem row_conv{W:World}{B:Nat}{v:Value}{xs:List UInt8}(h:W.ownsRow B 5 1 v xs.length (Lib.byteCells xs)):(convert 95 9 v).run Tryz.prog W=.ok (.string ⟨xs.toArray⟩) W:=by
 rcases h.2 with⟨rfl,h0⟩|⟨g,cap,cur,rfl,_,hhq7,_,_,_,htk⟩
 .have:xs=[]:=by first|exact List.eq_nil_of_length_eq_zero h0|(have h1q7:=h.1;simpa[Lib.byteCells] using h0)
  subst this;exact run_convert_bytes_nil W 95 5 Tryz.underlying95 Tryz.underlying5 0 0 9 Tryz.underlying9
 .exact run_convert_bytes_back W _ _ _ ⟨g,0,none⟩ cap xs Tryz.underlying95 Tryz.underlying5 Tryz.underlying9 (Lib.bytes_of_row hhq7 (by simpa[Lib.byteCells] using htk))
set_option maxRecDepth 1000000 in
set_option maxHeartbeats 3200000 in
theorem key_any(hAq7:AiC)(s:ah)(q:SV)(w:World)(hs:q.Ok w s)(hsm:Small s)(hfq7:KeyFits s)(hlen:(EX s).length<=100000000000000)(ht:TabU w.heap.size w) :
  Calls Tryz.prog 58 #[.agg (q.val s)] w λe w'=>e=.returned (.string ⟨(EX s).toArray⟩)/\Ext w w':=by
 obtain⟨GA,gn,gc,TA,tn,tc,HA,hn,hc⟩:=q;have hgl:s.globals.length=gn:=by have:=hs.at_.g.1;simpa using this
 have htl:s.table.length=tn:=by have:=hs.at_.t.1;simpa using this
 have hhl:s.threads.length=hn:=by have:=hs.at_.h.1;simpa using this
 have hgb:gn<=1000:=by have:=hsm.g;omega
 have htb:tn<=5000:=by have:=hsm.t;omega
 have hhb:hn<=1000:=by have:=hsm.h;omega
 have HL:=ae (And.intro hgl (And.intro htl hhl));have HS:=ae (And.intro hAq7 (And.intro hs (And.intro hsm (And.intro hfq7 (And.intro hlen ht)))));clear hAq7 hs hsm hfq7 hlen ht hgl htl hhl;dsimp only[SV.val];go_enter Tryz.func58,Tryz.ntmps58;go_upto_region 1 with(fail);generalize hWq7:World.alloc _ _=W;have hEq7:Ext w W:=by rw[<-hWq7];exact(Fr.refl _ _).alloc _
 have hB1:an W w.heap.size 45 #[.slice GA gn gc,.slice TA tn tc,.slice HA hn hc,.int .i64 s.fault]:=by rw[<-hWq7];exact an.new _ _ _
 have hkW:Lib.OthersKept 5 none w W:=by rw[<-hWq7];exact(Lib.OthersKept.refl _ _ _).alloc _
 have HW:=ae (And.intro hEq7 (And.intro hB1 hkW));have hsW:=hEq7.size;replace HS:=ae (And.intro HS.o.1 (And.intro HS.o.2.1 (And.intro HS.o.2.2.1 (And.intro HS.o.2.2.2.1 (And.intro HS.o.2.2.2.2.1 (HS.o.2.2.2.2.2.on hEq7.ext))))))
 obtain⟨x0q7,x0f,x0l⟩:=hB1.two;clear hWq7 hEq7 hB1 hkW;refine ks (RK w.heap.size) [(0,3),(1,0),(4,3),(5,0),(2,1),(3,1),(6,1),(7,3)] (by kernel_rfl) (by kernel_rfl) RK.refl (λ_ _ _ h k=>h.trans k) (λ_ _ d _ _ h=>by first|(cases d<;>exact h)|exact hQ0 _ _ _ _ _ h) ?_;clear x0q7 x0f x0l;refine pf ?_;refine bB (v:=?_) rfl (by rfl) (λV hV=>?_) ?_;rotate_left
 .obtain⟨x0q7,x0f,x0l⟩:=(an.onK HW.o.2.1 hV.kept (by decide)).two
  (go_simp<;>with_reducible rfl)
 try simp only[PU]
 refine pf ?_;refine bB (v:=?_) rfl (by rfl) (λV hV=>?_) ?_;rotate_left
 .obtain⟨x0q7,x0f,x0l⟩:=(an.onK HW.o.2.1 hV.kept (by decide)).two
  (go_simp<;>with_reducible rfl)
 try simp only[PU]
 refine aD rfl (λK hK=>?_);go_simp;refine dA hK (RK.lit hsW _) ?_;clear hK K;have hR0:RowU W w.heap.size (World.drew (World.alloc W (.cells #[.int .i64 s.fault] 3))) (.slice none 0 0) []:=(RowU.nil ((Below.refl _ _).alloc hsW _) ((Lib.OthersKept.refl _ _ _).alloc _)).drew;have hL0:=fam_lit (B:=w.heap.size) (wr:=World.drew (World.alloc W (.cells #[.int .i64 s.fault] 3))) (g:=W.heap.size) (l:=[s.fault]) (fz:=(0,0)) (heap_alloc_new W _);have HL0:=ae (And.intro hR0 hL0);clear hR0 hL0;refine aD rfl (λK hK=>?_);go_simp;refine(num_any HS.o.1 HL0.o.1 HL0.o.2 (λi hiq7=>by rw[List.mem_singleton.1 hiq7];exact HS.o.2.2.2.1.fault) hsW (by simp) HS.o.2.2.2.2.2).mono ?_;rintro e w1q7 ⟨v1,rfl,hR1,hk1⟩;have HR1:=ae (And.intro hR1 hk1);clear hR1 hk1;refine dA hK (HR1.o.2) ?_;clear hK K;refine aD rfl (λK hK=>?_);go_simp;refine(num_any HS.o.1 HR1.o.1 (fam_old (HS.o.2.1.at_.g.ints.eQ (HW.o.1.ext.trans HR1.o.1.bel)) (Nat.le_refl _) (Nat.le_trans hsW HR1.o.1.bel.size)) HS.o.2.2.2.1.dw hsW (by have:=len_le (ysq7:=[]++ha [s.fault]) (r:=ha s.globals++(xD s.table++s.threads.flatMap rM)) (T:=EX s) rfl;have:=HS.o.2.2.2.2.1;show _+22*gn+22<=_;omega) HS.o.2.2.2.2.2).mono ?_;rintro e w2q7 ⟨v2,rfl,hR2,hk2⟩;have HR2:=ae hR2;refine dA hK (hk2) ?_;clear hK K;clear hk2;refine pf ?_;refine aB ?_;have HQ:=ae (show ([]++ha [s.fault])++ha s.globals++(xD s.table++s.threads.flatMap rM)=EX s by simp[EX]);generalize []++ha [s.fault]++ha s.globals=y0q7 at HR2 HQ
 obtain⟨x0q7,x0f,x0l⟩:=(an.onK HW.o.2.1 HR2.o.kept (by decide)).two;go_wp2_with(fail);go_loopw [3,20] (λv ivq7 wr=>∃(i:Nat) (ysq7:List UInt8),ivq7=.int .i64 i/\i<=tn/\RowU W w.heap.size wr v ysq7/\ysq7++(xD (s.table.drop i)++s.threads.flatMap rM)=EX s) (λ_ ivq7 _=>tn - (intOf ivq7).toNat)
 case atStart=>exact⟨0,y0q7,rfl,ad,HR2.o,HQ.o⟩
 case round=>
  clear x0q7 x0f x0l;obtain⟨i,ysq7,rfl,hiq7,hRq7,heq⟩:=hrel;have hys:ysq7.length<=100000000000000:=Nat.le_trans (len_le heq) HS.o.2.2.2.2.1;have hEr:Ext w wr:=Fr.of (HW.o.1.ext.trans hRq7.bel);have hsr:=hEr.size;obtain⟨VA,vcq7,hvq7,hvo⟩:=bI hRq7.own;subst hvq7;clear hvo;have HR:=ae (And.intro hRq7 heq);by_cases hlt:i<tn
  .obtain⟨b,o,x,rfl,hbb,hx,c0,c1⟩:=(HS.o.2.1.at_.t.holds).hold hlt;replace c0:=(hEr.cell hbb λh=>h).trans c0
   replace c1:=(hEr.cell hbb λh=>h).trans c1
   have hbw:=Nat.lt_of_lt_of_le hbb hsr;have HX:=ae (And.intro hx (HS.o.2.2.2.1.Gp x (List.mem_of_getElem? hx)));clear hx hbb hRq7 heq hEr;go_upto_region 5 with(fail);generalize hX:World.alloc _ _=X;have hBX:an X wr.heap.size 137 #[.int .i64 x.owner,.int .i64 x.depth]:=by rw[<-hX];exact an.new _ _ _
   have hRX:RowU W w.heap.size X (.slice VA ysq7.length vcq7) ysq7:=by rw[<-hX];exact HR.o.1.alloc hsr _
   have HRX:=ae hRX;have hsX:=Nat.lt_of_le_of_lt hsr hBX.lt;obtain⟨x0q7,x0f,x0l⟩:=hBX.two;clear hX hBX hRX c0 c1;go_wp2_with(fail);generalize hYq7:World.alloc _ _=Y;have hRY:RowU W w.heap.size Y (.slice VA ysq7.length vcq7) ysq7:=by rw[<-hYq7];exact HRX.o.alloc ad _
   have hLY:=fam_lit (B:=w.heap.size) (wr:=Y) (g:=X.heap.size) (l:=[x.owner,x.depth]) (fz:=(0,0)) (by rw[<-hYq7];exact heap_alloc_new X _);clear hYq7;refine(num_any HS.o.1 hRY hLY (λk hkq7=>by
    rcases List.mem_cons.1 hkq7 with rfl|hkq7
    .exact HX.o.2.1
    .rw[List.mem_singleton.1 hkq7];exact HX.o.2.2) hsW (by simp only[List.length_cons,List.length_nil];omega) HS.o.2.2.2.2.2).mono ?_
   rintro e w3q7 ⟨v3q7,rfl,hR3,hk3⟩;have HR3:=ae hR3;clear hR3 hk3 hRY hLY x0q7 x0f x0l;go_wp2_with(fail);go_roundw
   case rel=>exact⟨i+1,_,by go_num,ad,HR3.o,by rw[<-HR.o.2,dropL HX.o.1];simp[xD]⟩
   case measure=>simp[intOf];omega
  .obtain rfl:i=tn:=ad;have hqq7:ysq7++s.threads.flatMap rM=EX s:=by rw[<-heq,List.drop_of_length_le (aC HL.o.2.1)];simp[xD]
   obtain⟨x0q7,x0f,x0l⟩:=(an.onK HW.o.2.1 hRq7.kept (by decide)).two;replace HR:=ae (And.intro hRq7 hqq7)
   clear hRq7 heq hqq7 hEr;go_wp2_with(fail);go_loopw [3,35] (λv ivq7 wr=>∃(i:Nat) (ysq7:List UInt8),ivq7=.int .i64 i/\i<=hn/\RowU W w.heap.size wr v ysq7/\ysq7++(s.threads.drop i).flatMap rM=EX s) (λ_ ivq7 _=>hn - (intOf ivq7).toNat)
   case atStart=>exact⟨0,ysq7,rfl,ad,HR.o.1,HR.o.2⟩
   case round=>
    clear x0q7 x0f x0l HR hys hsr hlt hiq7;obtain⟨i,ysq7,rfl,hiq7,hRq7,heq⟩:=hrel;have hys:ysq7.length<=100000000000000:=Nat.le_trans (len_le heq) HS.o.2.2.2.2.1;have hEr:Ext w wr:=Fr.of (HW.o.1.ext.trans hRq7.bel);have hsr:=hEr.size;obtain⟨VA,vcq7,hvq7,_⟩:=bI hRq7.own;subst hvq7;have HR:=ae (And.intro hRq7 heq);by_cases hlt:i<hn
    .obtain⟨b,o,t,FA,m,c,rfl,hbb,hx,c0,hmc,hfs⟩:=HS.o.2.1.at_.h.te hlt;replace c0:=(hEr.cell hbb λh=>h).trans c0
     have hbw:=Nat.lt_of_lt_of_le hbb hsr;have hml:t.length=m:=by have:=hfs.1;simpa using this
     have hmb:m<=1000000:=by have:=(HS.o.2.2.1.f t (List.mem_of_getElem? hx)).1;omega
     have HX:=ae (And.intro hx (And.intro (HS.o.2.2.2.1.frm t (List.mem_of_getElem? hx)) (And.intro ((HS.o.2.2.1.f t (List.mem_of_getElem? hx)).2) (And.intro hfs hml))));clear hx hbb hRq7 heq hEr hfs hml;go_upto_region 10 with(fail);generalize hX:World.alloc _ _=X;have hBX:an X wr.heap.size 77 #[.slice FA m c]:=by rw[<-hX];exact an.new _ _ _
     have hRX:RowU W w.heap.size X (.slice VA ysq7.length vcq7) ysq7:=by rw[<-hX];exact HR.o.1.alloc hsr _
     have HRX:=ae (And.intro hRX hBX);have hsX:=Nat.lt_of_le_of_lt hsr hBX.lt;clear hX hBX hRX c0;go_upto_region 11 with(at_builtin;refine cI _ appU8 rfl (.tmp 39) (.tmp 40) rfl w.heap.size _ _ _ #[.int .u8 91] rfl HRX.o.1.own rfl rfl (by simp[Value.oneCell']) ad ad ad ?_;intro v3q7 w3q7 hown3 hg3 hat3;have H3:=ae (HRX.o.1.app (k:=91) ad hown3 hg3);obtain⟨x0q7,x0f,x0l⟩:=(HRX.o.2.onK ((Lib.OthersKept.refl _ _ _).grown hg3 (row_kind HRX.o.1.own)) (by decide)).two;clear hown3 hg3 hat3);go_wp2_with(fail);clear x0q7 x0f x0l;go_loopw [3,45] (λv ivq7 wr=>∃(j:Nat) (zsq7:List UInt8),ivq7=.int .i64 j/\j<=m/\RowU W w.heap.size wr v zsq7/\zsq7++((t.drop j).flatMap sx++93::(s.threads.drop (i+1)).flatMap rM)=EX s) (λ_ ivq7 _=>m - (intOf ivq7).toNat)
     case atStart=>exact⟨0,_,rfl,ad,H3.o,by rw[<-HR.o.2,dropL HX.o.1];simp[rM]⟩
     case round=>
      obtain⟨j,zsq7,rfl,hjq7,hR3,heq3⟩:=hrel;have hzs:zsq7.length<=100000000000000:=Nat.le_trans (len_le heq3) HS.o.2.2.2.2.1;have hEr:Ext w wr:=Fr.of (HW.o.1.ext.trans hR3.bel);have hsr3:=hEr.size;obtain⟨ZA,zc,hvq7,_⟩:=bI hR3.own;subst hvq7;have HR3:=ae (And.intro hR3 heq3);by_cases hlt3:j<m
      .obtain⟨fbq7,foq7,f,IA,niq7,ic,LA,nl,lc,rfl,hfb,hqf,c0,c1,c2,c3,hic,hlc,hfi,hfl⟩:=HX.o.2.2.2.1.wc hlt3;replace c0:=(hEr.cell hfb λh=>h).trans c0
       replace c1:=(hEr.cell hfb λh=>h).trans c1
       replace c2:=(hEr.cell hfb λh=>h).trans c2
       replace c3:=(hEr.cell hfb λh=>h).trans c3
       have hbw3:=Nat.lt_of_lt_of_le hfb hsr3;have hnl:f.ints.length=niq7:=by have:=hfi.1;simpa using this
       have hnk:f.aw.length=nl:=by have:=hfl.1;simpa using this
       have hlim:=HX.o.2.2.1 f (List.mem_of_getElem? hqf);have hnib:niq7<=100000:=ad;have hnlb:nl<=100000:=ad;have HF:=ae (And.intro hqf (And.intro (HX.o.2.1 f (List.mem_of_getElem? hqf)) (And.intro hfi.ints hfl.ints)));have hz2:(zsq7++ha [f.proc,f.pc]).length<=100000000000000/\(zsq7++ha [f.proc,f.pc]++ha f.ints).length<=100000000000000:=by
        rw[dropL hqf,List.flatMap_cons,sx] at heq3;exact⟨Nat.le_trans (len_le (r:=(ha f.ints++ha f.aw)++((t.drop (j+1)).flatMap sx++93::(s.threads.drop (i+1)).flatMap rM)) (by rw[<-heq3];simp)) HS.o.2.2.2.2.1,Nat.le_trans (len_le (r:=ha f.aw++((t.drop (j+1)).flatMap sx++93::(s.threads.drop (i+1)).flatMap rM)) (by rw[<-heq3];simp)) HS.o.2.2.2.2.1⟩
       clear hqf hfb hR3 heq3 hEr hfi hfl hnl hnk hlim hic hlc;go_upto_region 14 with(fail);generalize hX:World.alloc _ _=X4;have hBX:an X4 wr.heap.size 139 #[.int .i64 f.proc,.int .i64 f.pc,.slice IA niq7 ic,.slice LA nl lc]:=by rw[<-hX];exact an.new _ _ _
       have hRX:RowU W w.heap.size X4 (.slice ZA zsq7.length zc) zsq7:=by rw[<-hX];exact HR3.o.1.alloc hsr3 _
       have HRX4:=ae (And.intro hRX hBX);have hsX4:=Nat.lt_of_le_of_lt hsr3 hBX.lt;have hsX5:=Nat.le_of_lt hsX4;obtain⟨x0q7,x0f,x0l⟩:=hBX.two;clear hX hBX hRX c0 c1 c2 c3;refine ks (RK w.heap.size) [(0,3),(1,3),(2,0),(3,3),(4,0),(7,3),(8,0),(10,3),(11,0),(5,1),(6,1),(9,1),(12,1),(13,3)] (by kernel_rfl) (by kernel_rfl) RK.refl (λ_ _ _ h k=>h.trans k) (λ_ _ d _ _ h=>by first|(cases d<;>exact h)|exact hQ0 _ _ _ _ _ h) ?_;clear x0q7 x0f x0l
       iterate 2 refine pf ?_
       refine bB (v:=?_) rfl (by rfl) (λV hV=>?_) ?_;rotate_left
       .obtain⟨x0q7,x0f,x0l⟩:=(an.onK HRX4.o.2 hV.kept (by decide)).two
        (go_simp<;>with_reducible rfl)
       try simp only[PU]
       refine pf ?_;refine bB (v:=?_) rfl (by rfl) (λV hV=>?_) ?_;rotate_left
       .obtain⟨x0q7,x0f,x0l⟩:=(an.onK HRX4.o.2 hV.kept (by decide)).two
        (go_simp<;>with_reducible rfl)
       try simp only[PU]
       refine pf ?_;refine bB (v:=?_) rfl (by rfl) (λV hV=>?_) ?_;rotate_left
       .obtain⟨x0q7,x0f,x0l⟩:=(an.onK HRX4.o.2 hV.kept (by decide)).two
        (go_simp<;>with_reducible rfl)
       try simp only[PU]
       refine pf ?_;refine bB (v:=?_) rfl (by rfl) (λV hV=>?_) ?_;rotate_left
       .obtain⟨x0q7,x0f,x0l⟩:=(an.onK HRX4.o.2 hV.kept (by decide)).two
        (go_simp<;>with_reducible rfl)
       try simp only[PU]
       refine aD rfl (λK hK=>?_);go_simp;refine dA hK (RK.lit hsX5 _) ?_;clear hK K;have hR0:RowU W w.heap.size (World.drew (World.alloc X4 (.cells #[.int .i64 f.proc,.int .i64 f.pc] 3))) (.slice ZA zsq7.length zc) zsq7:=(HRX4.o.1.alloc hsX5 _).drew;have hL0:=fam_lit (B:=w.heap.size) (wr:=World.drew (World.alloc X4 (.cells #[.int .i64 f.proc,.int .i64 f.pc] 3))) (g:=X4.heap.size) (l:=[f.proc,f.pc]) (fz:=(0,0)) (heap_alloc_new X4 _);have HL0:=ae (And.intro hR0 hL0);clear hR0 hL0;refine aD rfl (λK hK=>?_);go_simp;refine(num_any HS.o.1 HL0.o.1 HL0.o.2 (λk hkq7=>by
        rcases List.mem_cons.1 hkq7 with rfl|hkq7
        .exact HF.o.2.1.1
        .rw[List.mem_singleton.1 hkq7];exact HF.o.2.1.2.1) hsW (by simp only[List.length_cons,List.length_nil];omega) HS.o.2.2.2.2.2).mono ?_
       rintro e w5q7 ⟨v5q7,rfl,hR5,hk5⟩;have HR5:=ae (And.intro hR5 hk5);clear hR5 hk5;refine dA hK (HR5.o.2) ?_;clear hK K;refine aD rfl (λK hK=>?_);go_simp;refine(num_any HS.o.1 HR5.o.1 (fam_old (HF.o.2.2.1.eQ (HW.o.1.ext.trans HR5.o.1.bel)) (Nat.le_refl _) (Nat.le_trans hsW HR5.o.1.bel.size)) HF.o.2.1.2.2.1 hsW ad HS.o.2.2.2.2.2).mono ?_;rintro e w6q7 ⟨v6,rfl,hR6,hk6⟩;have HR6:=ae (And.intro hR6 hk6);clear hR6 hk6;refine dA hK (HR6.o.2) ?_;clear hK K;refine aD rfl (λK hK=>?_);go_simp;refine(num_any HS.o.1 HR6.o.1 (fam_old (HF.o.2.2.2.eQ (HW.o.1.ext.trans HR6.o.1.bel)) (Nat.le_refl _) (Nat.le_trans hsW HR6.o.1.bel.size)) HF.o.2.1.2.2.2 hsW ad HS.o.2.2.2.2.2).mono ?_;rintro e w7q7 ⟨v7q7,rfl,hR7,hk7⟩;have HR7:=ae hR7;refine dA hK (hk7) ?_;clear hK K;clear hR7 hk7;refine pf ?_;refine aB ?_;go_wp2_with(fail);go_roundw
       case rel=>exact⟨j+1,_,by go_num,ad,HR7.o,by rw[<-HR3.o.2,dropL HF.o.1,List.flatMap_cons,sx];simp⟩
       case measure=>simp[intOf];omega
      .obtain rfl:j=m:=ad;have hqq7:zsq7++93::(s.threads.drop (i+1)).flatMap rM=EX s:=by rw[<-heq3,show t.drop j=[] from List.drop_of_length_le (aC HX.o.2.2.2.2)];simp
       replace HR3:=ae (And.intro hR3 hqq7)
       clear hR3 heq3 hqq7 hEr;go_wp2_with(at_builtin;refine cI _ appU8 rfl (.tmp 63) (.tmp 64) rfl w.heap.size _ _ _ #[.int .u8 93] rfl HR3.o.1.own rfl rfl (by simp[Value.oneCell']) ad ad ad ?_;intro v3q7 w3q7 hown3 hg3 hat3;have H4:=ae (HR3.o.1.app (k:=93) ad hown3 hg3);clear hown3 hg3 hat3);go_roundw
       case rel=>exact⟨i+1,_,by go_num,ad,H4.o,by rw[<-HR3.o.2];simp⟩
       case measure=>simp[intOf];omega
    .obtain rfl:i=hn:=ad;have hqq7:ysq7=EX s:=by rw[<-heq,List.drop_of_length_le (aC HL.o.2.2)];simp
     have kc:=row_conv hRq7.own;have HE:=ae (And.intro hEr hqq7);clear hRq7 heq hEr HR hqq7;go_wp2_with(fail);go_ret;exact⟨by rw[HE.o.2];rfl,HE.o.1⟩
end
section
open Go.ChangeMaps Go.MapKept Go.WideElems
open Go.Maps (Keyed)
section
variable {P:Program} {w:World} {t k e:TypeId} {R:Value->Option (DataW Unit×List MemPlace)} {b n:Nat} {D:DataW Unit} {es:Array MapEntry} {clock:Nat}
theorem entry_store(K:Keyed P k)(ht:P.underlying t=some (.map k e)){z:Value}(hzq7:∀u:World,(zeroValue e).run P u=.ok z u)(hbq7:w.heap[b]?=some (.map es clock))(F:Fit P k R es clock){key:Value}{kl:Lit}(hkey:keyOf P k key=some kl) :
  ∃(v0:Value) (st:Nat) (es1:Array MapEntry) (clock1:Nat),(Instr.mapEntry t (.map (some b)) key).run P w=.ok (.tuple #[v0,goInt st]) (setBlock w b (.map es1 clock1))/\
   ∀(w2q7:World) (val:Value),w2q7.heap[b]?=some (.map es1 clock1)->∃es' clock',(Instr.entryStore t (.map (some b)) (goInt st) val).run P w2q7=.ok () (setBlock w2q7 b (.map es' clock'))/\
    (Instr.mapUpdate t (.map (some b)) key val).run P w=.ok () (setBlock w b (.map es' clock')):=by
 obtain⟨s1,s2,_⟩:=F.stamped;rcases K.find w hkey es.toList F.keys with⟨h1q7,h2q7⟩|⟨j,e0,h1q7,h2q7,h3q7⟩
 .refine⟨z,clock,es.push ⟨key,z,clock⟩,clock+1,?_,λw2q7 val hw2=>⟨es.push ⟨key,val,clock⟩,clock+1,?_,?_⟩⟩
  .simp[Instr.mapEntry,run_underlying ht,MapKept.run_getObj_map hbq7,K.check w false hkey,h1q7,hzq7,MapKept.run_setObj_map _ hbq7,Result.andThen,setBlock]
  .have hidx:(es.push ⟨key,z,clock⟩).findIdx? (λe=>((e.born:Nat):Int) == ((clock:Nat):Int))=some es.size:=by
    rw[findIdx_arr];have:=findIdx_born (l:=(es.push ⟨key,z,clock⟩).toList) (j:=es.size) (e0:=⟨key,z,clock⟩) (by
     simp only[Array.toList_push,List.map_append,List.map_cons,List.map_nil];refine List.nodup_append.2 ⟨s2,by simp,λa haq7 c hc e1=>?_⟩;simp only[List.mem_singleton] at hc;obtain⟨x,hx,rfl⟩:=List.mem_map.1 haq7;have:=s1 x hx;omega) (by simp)
    exact this
   have hmod:(es.push ⟨key,z,clock⟩).modify es.size (λe=>{e with val:=val})=es.push ⟨key,val,clock⟩:=by
    apply Array.ext'
    rw[Array.toList_modify,Array.toList_push,Array.toList_push,<-Array.length_toList,modify_last]
   simp[Instr.entryStore,MapKept.run_getObj_map hw2,asInt,asIntOf,goInt,hidx,hmod,MapKept.run_setObj_map _ hw2,Result.andThen,setBlock]
  .simp[Instr.mapUpdate,run_underlying ht,MapKept.run_getObj_map hbq7,K.check w false hkey,h1q7,MapKept.run_setObj_map _ hbq7,Result.andThen,setBlock]
 .have hjq7:es[j]?=some e0:=by simpa using h2q7
  have hsame:es.modify j (λe=>{e with key:=key})=es:=by
   apply Array.ext'
   rw[Array.toList_modify,modify_eq_set _ _ _ _ h2q7];have:({e0 with key:=key}:MapEntry)=e0:=by rw[<-h3q7]
   rw[this];exact set_self _ _ _ h2q7
  refine⟨e0.val,e0.born,es,clock,?_,λw2q7 val hw2=>⟨es.modify j (λe'=>{e' with key:=key,val:=val}),clock,?_,?_⟩⟩
  .simp[Instr.mapEntry,run_underlying ht,MapKept.run_getObj_map hbq7,K.check w false hkey,h1q7,hjq7,h3q7,K.stays w hkey,hsame,MapKept.run_setObj_map _ hbq7,Result.andThen,setBlock]
  .have hidx:es.findIdx? (λe=>((e.born:Nat):Int) == ((e0.born:Nat):Int))=some j:=by
    rw[findIdx_arr];exact findIdx_born s2 h2q7
   have hmod:es.modify j (λe=>{e with val:=val})=es.modify j (λe'=>{e' with key:=key,val:=val}):=by
    apply Array.ext'
    rw[Array.toList_modify,Array.toList_modify,modify_eq_set _ _ _ _ h2q7,modify_eq_set _ _ _ _ h2q7,<-h3q7]
   simp[Instr.entryStore,MapKept.run_getObj_map hw2,asInt,asIntOf,goInt,hidx,hmod,MapKept.run_setObj_map _ hw2,Result.andThen,setBlock]
  .simp[Instr.mapUpdate,run_underlying ht,MapKept.run_getObj_map hbq7,K.check w false hkey,h1q7,hjq7,h3q7,K.stays w hkey,MapKept.run_setObj_map _ hbq7,Result.andThen,setBlock]
theorem own_entry(h:w.ownsMap P k R b n D)(K:Keyed P k)(ht:P.underlying t=some (.map k e)){z:Value}(hzq7:∀u:World,(zeroValue e).run P u=.ok z u)(hn:n<maxLen){key val:Value}{kl:Lit}{d:DataW Unit}{ps:List MemPlace}
  (hkey:keyOf P k key=some kl) (hvq7:R val=some (d,ps)) :
  ∃(v0:Value) (st:Nat) (w1q7:World),(Instr.mapEntry t (.map (some b)) key).run P w=.ok (.tuple #[v0,goInt st]) w1q7/\w.grownBy w1q7 (some b)/\
   ∀w2q7:World,w2q7.heap[b]?=w1q7.heap[b]?->∃w3q7,(Instr.entryStore t (.map (some b)) (goInt st) val).run P w2q7=.ok () w3q7/\w3q7.ownsMap P k R b (n+1) (D.put kl d)/\w2q7.grownBy w3q7 (some b):=by
 obtain⟨w',hrun,hown,_⟩:=h.update K ht hn hkey hvq7;obtain⟨es,clock,hbq7,F,_,_⟩:=h;obtain⟨v0,st,es1,cl1,h1q7,h2q7⟩:=entry_store K ht hzq7 hbq7 F hkey;refine⟨v0,st,_,h1q7,World.mapTurned.grown ⟨es,clock,es1,cl1,hbq7,rfl⟩,λw2q7 hw2=>?_⟩;rw[heap_setBlock_same hbq7] at hw2;obtain⟨es2,cl2,h3q7,h4q7⟩:=h2q7 w2q7 val hw2;refine⟨_,h3q7,?_,World.mapTurned.grown ⟨es1,cl1,es2,cl2,hw2,rfl⟩⟩;rw[hrun] at h4q7;injection h4q7 with _ h4q7;subst h4q7;obtain⟨es3,cl3,hb3,rest⟩:=hown;rw[heap_setBlock_same hbq7] at hb3;exact⟨es3,cl3,by rw[heap_setBlock_same hw2];exact hb3,rest⟩
theorem own_look(h:w.ownsMap P k (plainElem P e) b n D)(K:Keyed P k)(ht:P.underlying t=some (.map k e))(he:P.underlying e=some .bool)(hzq7:(zeroValue e).run P w=.ok (.bool false) w){key:Value}{kl:Lit}(hkey:keyOf P k key=some kl)
  {c:Bool} (hc:D.atKey kl (.lit (.bool false))=.lit (.bool c)):(Instr.lookup t (.map (some b)) key false).run P w=.ok (.bool c) w:=by
 obtain⟨v,ps,hrun,hvq7⟩:=h.lookup K ht hzq7 (plainElem_bool he false) hkey;rw[hc] at hvq7;unfold plainElem at hvq7;rw[he] at hvq7;cases v<;>simp at hvq7
 rw[hrun,hvq7.1]
end
def Knows(w:World)(b n:Nat)(S:List (List UInt8)):Prop:=∃D:DataW Unit,w.ownsMap Tryz.prog 9 (plainElem Tryz.prog 4) b n D/\∀xs,D.atKey (.string xs) (.lit (.bool false))=.lit (.bool (decide (xs∈S)))
def Opens(w:World)(b n i:Nat):Prop:=∃D:DataW Unit,w.ownsMap Tryz.prog 3 (plainElem Tryz.prog 4) b n D/\∀j:Nat,i<=j->j<n->Maps.has D (.int .i64 j)=true
abbrev keyS:Keyed Tryz.prog 9:=Maps.string_keyed Tryz.underlying9
abbrev keyI:Keyed Tryz.prog 3:=Maps.int_keyed Tryz.underlying3
theorem zeroB(w:World):(zeroValue 4).run Tryz.prog w=.ok (.bool false) w:=by kernel_rfl
section
variable {w w':World} {b n i:Nat} {S:List (List UInt8)}
theorem Knows.made(w:World):Knows (w.alloc (.map #[] 0)) w.heap.size 0 []:=⟨_,World.ownsMap_made _ _ _ _,λxs=>rfl⟩
theorem Opens.made(w:World):Opens (w.alloc (.map #[] 0)) w.heap.size 0 0:=⟨_,World.ownsMap_made _ _ _ _,λj _ h=>absurd h ad⟩
theorem Knows.al(h:Knows w b n S)(hkq7:w'.heap[b]?=w.heap[b]?):Knows w' b n S:=by
 obtain⟨D,⟨es,cl,hbq7,r⟩,h2q7⟩:=h;exact⟨D,⟨es,cl,hkq7.trans hbq7,r⟩,h2q7⟩
theorem Opens.al(h:Opens w b n i)(hkq7:w'.heap[b]?=w.heap[b]?):Opens w' b n i:=by
 obtain⟨D,⟨es,cl,hbq7,r⟩,h2q7⟩:=h;exact⟨D,⟨es,cl,hkq7.trans hbq7,r⟩,h2q7⟩
theorem Knows.lt(h:Knows w b n S):b<w.heap.size:=by
 obtain⟨D,h1q7,_⟩:=h;exact h1q7.lt
theorem Opens.lt(h:Opens w b n i):b<w.heap.size:=by
 obtain⟨D,h1q7,_⟩:=h;exact h1q7.lt
theorem Knows.look(h:Knows w b n S)(xs:List UInt8)(hx:xs.length<=100000000000000):(Instr.lookup 66 (.map (some b)) (.string ⟨xs.toArray⟩) false).run Tryz.prog w=.ok (.bool (decide (xs∈S))) w:=by
 obtain⟨D,h1q7,h2q7⟩:=h;exact own_look h1q7 keyS Tryz.underlying66 Tryz.underlying4 (zeroB w) (WideMaps.keyOf_string_mk Tryz.underlying9 (by simp[ByteArray.size,maxLen];omega)) (h2q7 xs)
theorem Knows.entry(h:Knows w b n S)(hn:n<=1000000)(xs:List UInt8)(hx:xs.length<=100000000000000) :
  ∃(v0:Value) (st:Nat) (w1q7:World),(Instr.mapEntry 66 (.map (some b)) (.string ⟨xs.toArray⟩)).run Tryz.prog w=.ok (.tuple #[v0,.int .i64 (st:Nat)]) w1q7/\w.grownBy w1q7 (some b)/\
   ∀w2q7:World,w2q7.heap[b]?=w1q7.heap[b]?->∃w3q7,(Instr.entryStore 66 (.map (some b)) (.int .i64 (st:Nat)) (.bool true)).run Tryz.prog w2q7=.ok () w3q7/\Knows w3q7 b (n+1) (S++[xs])/\w2q7.grownBy w3q7 (some b):=by
 obtain⟨D,h1q7,h2q7⟩:=h;have hkey:=WideMaps.keyOf_string_mk (P:=Tryz.prog) (k:=9) (s:=⟨xs.toArray⟩) Tryz.underlying9 (by simp[ByteArray.size,maxLen];omega);obtain⟨v0,st,w1q7,e1,e2,e3⟩:=own_entry h1q7 keyS Tryz.underlying66 zeroB (by unfold maxLen;omega) (val:=.bool true) hkey (plainElem_bool Tryz.underlying4 true);refine⟨v0,st,w1q7,e1,e2,λw2q7 hw2=>?_⟩;obtain⟨w3q7,f1,f2,f3⟩:=e3 w2q7 hw2;refine⟨w3q7,f1,⟨_,f2,λysq7=>?_⟩,f3⟩;by_cases hyq7:ysq7=xs
 .subst hyq7;rw[Maps.atKey_put_same (h1q7.isMap) (keyS.key hkey)];simp
 .rw[Maps.atKey_put_other (λhe=>hyq7 (by injection he)),h2q7 ysq7];simp[hyq7]
theorem keyN(i:Nat)(hiq7:i<=1000000):keyOf Tryz.prog 3 (.int .i64 i)=some (.int .i64 i):=Maps.keyOf_int_mk (a:=(i:Nat)) Tryz.underlying3 (WalkArith.wf_i64 ad)
theorem Opens.entry(h:Opens w b n i)(hn:n<=1000000) :
  ∃(v0:Value) (st:Nat) (w1q7:World),(Instr.mapEntry 67 (.map (some b)) (.int .i64 n)).run Tryz.prog w=.ok (.tuple #[v0,.int .i64 (st:Nat)]) w1q7/\w.grownBy w1q7 (some b)/\
   ∀w2q7:World,w2q7.heap[b]?=w1q7.heap[b]?->∃w3q7,(Instr.entryStore 67 (.map (some b)) (.int .i64 (st:Nat)) (.bool true)).run Tryz.prog w2q7=.ok () w3q7/\Opens w3q7 b (n+1) i/\w2q7.grownBy w3q7 (some b):=by
 obtain⟨D,h1q7,h2q7⟩:=h;obtain⟨v0,st,w1q7,e1,e2,e3⟩:=own_entry h1q7 keyI Tryz.underlying67 zeroB (by unfold maxLen;omega) (val:=.bool true) (keyN n hn) (plainElem_bool Tryz.underlying4 true);refine⟨v0,st,w1q7,e1,e2,λw2q7 hw2=>?_⟩;obtain⟨w3q7,f1,f2,f3⟩:=e3 w2q7 hw2;refine⟨w3q7,f1,⟨_,f2,λj hjq7 hjn=>?_⟩,f3⟩;by_cases hyq7:j=n
 .subst hyq7;exact Maps.has_put_same h1q7.isMap (keyI.key (keyN j hn)) _
 .rw[Maps.has_put_other (λhe=>hyq7 (by have:=(Lit.int.inj he).2;omega))];exact h2q7 j hjq7 ad
theorem Opens.drop(h:Opens w b n i)(hiq7:i<=1000000)(ty:TypeId):∃w',(Builtin.delete_ #[67,3] ty #[.map (some b),.int .i64 i]).run Tryz.prog w=.ok (.tuple #[]) w'/\Opens w' b n (i+1)/\w.grownBy w' (some b):=by
 obtain⟨D,h1q7,h2q7⟩:=h;obtain⟨w',e1,e2,e3⟩:=h1q7.drop keyI Tryz.underlying67 (keyN i hiq7) ty;refine⟨w',e1,⟨_,e2,λj hjq7 hjn=>?_⟩,e3.grown⟩;rw[Maps.has_del_other (λhe=>by have:=(Lit.int.inj he).2;omega)];exact h2q7 j ad hjn
theorem Opens.len(h:Opens w b n i)(ty:TypeId):∃m:Nat,m<=n/\(m=0->n<=i)/\(Builtin.len_ #[67] ty #[.map (some b)]).run Tryz.prog w=.ok (.int .i64 m) w:=by
 obtain⟨D,h1q7,h2q7⟩:=h;refine⟨_,h1q7.size_le,λh0=>?_,h1q7.len Tryz.underlying67 ty⟩;rcases Nat.lt_or_ge i n with hlt|hlt
 .have h3q7:=h2q7 i (Nat.le_refl _) hlt;obtain⟨es,rfl⟩:=h1q7.isMap;have:es=[]:=List.eq_nil_of_length_eq_zero h0;subst this;cases h3q7
 .exact hlt
end
end
section
theorem appFd:b2 Tryz.prog 65 71 (.agg #[.slice none 0 0,.slice none 0 0,.slice none 0 0,.int .i64 0,.int .i64 0,.int .i64 0]) 6 96:=b2.mk' Tryz.underlying65 (by kernel_rfl) rfl ad
def encK(k:Fd):D:=.st [.sl (k.1.globals.map D.i),.sl (k.1.table.map l4),.sl (k.1.threads.map ly),.i k.1.fault,.i k.2.1,.i k.2.2]
theorem encK_sz(k:Fd):(encK k).sz=6:=rfl
abbrev fdC(q:SV)(k:Fd):List Value:=[.slice q.GA q.gn q.gc,.slice q.TA q.tn q.tc,.slice q.HA q.hn q.hc,.int .i64 k.1.fault,.int .i64 k.2.1,.int .i64 k.2.2]
theorem encK_iff{w:World}{P:Nat->Prop}{k:Fd}{cs:List Value}:(encK k).rep w P cs↔∃q:SV,cs=fdC q k/\q.Is w P k.1:=by
 unfold encK;rw[bw];constructor
 .intro h;obtain⟨A,n,c,y,rfl,hc,hs,h1q7⟩:=aA.1 h;obtain⟨A2,n2q7,c2,y2q7,rfl,hc2,hs2,h2q7⟩:=aA.1 h1q7;obtain⟨A3q7,n3q7,c3,y3q7,rfl,hc3,hs3,h3q7⟩:=aA.1 h2q7;obtain⟨y4q7,rfl,h4q7⟩:=a2.1 h3q7;obtain⟨y5q7,rfl,h5q7⟩:=a2.1 h4q7;obtain⟨y6q7,rfl,h6q7⟩:=a2.1 h5q7;rw[aM] at h6q7;subst h6q7;exact⟨⟨A,n,c,A2,n2q7,c2,A3q7,n3q7,c3⟩,rfl,⟨hs,hs2,hs3⟩,hc,hc2,hc3⟩
 .rintro⟨q,rfl,h⟩;exact aA.2 ⟨_,_,_,_,rfl,h.gc,h.at_.g,aA.2 ⟨_,_,_,_,rfl,h.tc,h.at_.t,aA.2 ⟨_,_,_,_,rfl,h.hc,h.at_.h,a2.2 ⟨_,rfl,a2.2 ⟨_,rfl,a2.2 ⟨_,rfl,aM.2 rfl⟩⟩⟩⟩⟩⟩
structure SC where
 u:ax
 p:UV
 most:Nat
 wold:World
 V:Nat
 g:Nat
 bKn:Nat
 bOp:Nat
abbrev SC.P(c:SC):Nat->Prop:=λb=>c.wold.heap.size<=b/\b≠c.g/\b≠c.bKn/\b≠c.bOp
structure SC.Ok(c:SC):Prop where
 hU:x0 c.u
 hu:c.p.Ok c.wold c.u
 Gp:TabU c.wold.heap.size c.wold
 aint:AiC
 most:1<=c.most/\c.most<=500
 lt:c.wold.heap.size<=c.g/\c.wold.heap.size<=c.bKn/\c.wold.heap.size<=c.bOp/\c.g<c.V/\c.bKn<c.V/\c.bOp<c.V
 ne:c.g≠c.bKn/\c.g≠c.bOp/\c.bKn≠c.bOp
abbrev xCq7(c:SC)(A:Option Addr)(n d:Nat):Array Value:=#[.slice c.p.GA c.p.gn c.p.gc,.slice c.p.MA c.p.mn c.p.mc,.slice c.p.PA c.p.pn c.p.pc,.int .i64 c.u.main,.int .i64 (c.most:Nat),.slice A n d,.map (some c.bKn),.map (some c.bOp)]
structure XAt(c:SC)(w:World)(A:Option Addr)(n d i R:Nat)(L:List Fd)(out:List Kn):Prop where
 blk:an w c.g 69 (xCq7 c A n d)
 row:Gr c.P c.V 71 6 w A n d (L.map encK)
 know:Knows w c.bKn n (L.map λx=>EX x.1)
 op:Opens w c.bOp n i
 fd:FdOk L out
 le:out.length<=c.most
 st:∀k∈out,aV c.u R k.1
 ext:Ext c.wold w
 sz:c.V<=w.heap.size
abbrev SC.M(c:SC)(A:Option Addr)(n d:Nat):Nat->Prop:=λb=>b=c.g\/b=c.bKn\/b=c.bOp\/(Value.slice A n d).ownBlock=some b
section
variable {c:SC} {w w':World} {A:Option Addr} {n d i R:Nat} {L:List Fd} {out:List Kn}
theorem XAt.len(h:XAt c w A n d i R L out):L.length=n/\out.length=n:=by
 have h1q7:=h.row.len;rw[List.length_map] at h1q7;have h2q7:=h.fd.len;exact⟨h1q7,ad⟩
theorem XAt.own(h:XAt c w A n d i R L out){b:Nat}(hbq7:(Value.slice A n d).ownBlock=some b):c.V<=b/\b<w.heap.size:=h.row.lt hbq7
theorem XAt.hu(hc:c.Ok)(h:XAt c w A n d i R L out):c.p.Ok w c.u:=hc.hu.on h.ext
theorem XAt.Gp(hc:c.Ok)(h:XAt c w A n d i R L out):TabU w.heap.size w:=λw' hbq7=>(hc.Gp.on h.ext.ext) w' (hbq7.mono h.ext.size)
theorem XAt.up(h:XAt c w A n d i R L out):XAt c w A n d i (R+1) L out:=⟨h.blk,h.row,h.know,h.op,h.fd,h.le,λk hkq7=>(h.st k hkq7).mono ad,h.ext,h.sz⟩
theorem XAt.on(h:XAt c w A n d i R L out)(he:Ext w w'):XAt c w' A n d i R L out:=
 ⟨h.blk.aj he,h.row.aj he,h.know.al (he.block _ h.know.lt λh=>h),h.op.al (he.block _ h.op.lt λh=>h),h.fd,h.le,h.st,h.ext.trans he,Nat.le_trans h.sz he.size⟩
theorem XAt.turn(hc:c.Ok)(h:XAt c w A n d i R L out){i':Nat}(hgq7:w.grownBy w' (some c.bOp))(hoq7:Opens w' c.bOp n i'):XAt c w' A n d i' R L out:=by
 have hl:=hc.lt;have hn:=hc.ne;have hfq7:Fr (λb=>b=c.bOp) w w':=(Fr.refl _ _).grown hgq7 λg hgq7=>.inl (by injection hgq7 with hgq7;exact hgq7.symm);exact⟨h.blk.on hfq7 hn.2.1,h.row.dh hfq7 λb hbq7 _=>⟨λhp=>hp.2.2.2 hbq7,ad⟩,h.know.al (hfq7.block _ h.know.lt hn.2.2),hoq7,h.fd,h.le,h.st,Fr.low (M:=λb=>b=c.bOp) (Fr.trans (h.ext.mono λ_ h=>h.elim) hfq7) (λb hbq7=>ad),Nat.le_trans h.sz hfq7.size⟩
theorem XAt.at_(h:XAt c w A n d i R L out){j:Nat}(hiq7:j<n):∃b k s q,A=some ⟨b,0,none⟩/\b<w.heap.size/\c.V<=b/\L[j]?=some k/\out[j]?=some s/\s.1=k.1/\SV.Is q w (kJ c.P w (.slice A n d)) k.1/\∀m u,(fdC q k)[m]?=some u->w.cell? ⟨b,j*6+m,none⟩=some u:=by
 obtain⟨hl,xs,h1q7,h2q7⟩:=h.row;have hLq7:=h.len;obtain⟨k,hkq7⟩:∃k,L[j]?=some k:=⟨_,List.getElem?_eq_getElem ad⟩
 obtain⟨p,hs,_⟩:=h.fd.at_ j k.1 k.2.1 k.2.2 hkq7;obtain⟨g,hAq7,hbq7,hgq7,hcl,_⟩:=kQ h1q7 ad;obtain⟨cs,hd,_,hcc⟩:=D.rF (z:=6) h2q7 (λd hd=>by obtain⟨x,_,rfl⟩:=List.mem_map.1 hd;rfl) (k:=j) (d:=encK k) (by rw[List.getElem?_map,hkq7];rfl);obtain⟨q,rfl,hqq7⟩:=encK_iff.1 hd;exact⟨g,k,_,q,hAq7,hgq7,hbq7,hkq7,hs,rfl,hqq7,λm u hu=>hcl _ u (hcc m u hu)⟩
end
end
end Go.Proofs.YtajlmkkidmjgoaaGreatDoor
