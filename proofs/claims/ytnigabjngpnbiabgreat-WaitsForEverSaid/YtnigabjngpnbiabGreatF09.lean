/- Part 9 of the proof. No condition of its own. -/
import Derived.Test.YtnigabjngpnbiabGreatF02
namespace Go.Proofs.YtnigabjngpnbiabGreat
open Go.RowKit Go.Proofs.Tryz
set_option maxRecDepth 1000000
set_option maxHeartbeats 25600000
set_option linter.unusedVariables false
variable{s:ByteArray}{d:Int}{acc:List Tok}{l:List UInt8}{b cap f k n o:Nat}{c x:UInt8}{p:UInt8->Bool}{ab w:World}
theorem mz(c:UInt8)(w:World):Calls prog 73 #[.int .u8 c.toNat] w λe ab=>e=.returned (.bool (bX c))/\w=ab:=by
 go_enter func73,ntmps73;go_wp2
 all_goals
  go_ret;refine⟨ret_bool ?_,rfl⟩;rw[Bool.eq_iff_iff];simp[bX];omega
theorem lq(c:UInt8)(w:World):Calls prog 74 #[.int .u8 c.toNat] w λe ab=>e=.returned (.bool (bC c))/\w=ab:=by
 go_enter func74,ntmps74;go_wp2
 all_goals
  go_ret;refine⟨ret_bool ?_,rfl⟩;rw[Bool.eq_iff_iff];simp[bC];omega
theorem uh{x:ByteArray}(h:x≠s):(x.toList == s.toList)=false:=by
 refine beq_eq_false_iff_ne.2 λe=>h ?_;rw[ByteArray.ext_iff];rw[Go.Lib.toList_data,Go.Lib.toList_data] at e;exact Array.toList_inj.1 e
def hasB(l:NI)(s:ByteArray):Bool:=l.any λx=>decide (x=s)
theorem zL{l:NI}(h:∀(j:Nat) (x:ByteArray),l[j]?=some x->x≠s):hasB l s=false:=by
 unfold hasB;rw[List.any_eq_false];exact A6
theorem zM{l:NI}{j:Nat}(h:l[j]?=some s):hasB l s=true:=by
 unfold hasB;rw[List.any_eq_true];exact⟨s,M4 h,by simp⟩
theorem pB(A:NH)(n c:Nat)(l:NI)(s:ByteArray)(w:World)(h:cp (EF o2) 1 w w.heap.size A n l)(hn:n<=1000000) :
  Calls prog 102 #[.slice A n c,s] w λe ab=>e=.returned (.bool (hasB l s))/\w=ab:=by
 have H:=ae h;clear h;go_enter func102,ntmps102;go_wp2
 go_loop [5] (λi=>∃k:Nat,k<=n/\i=.int .i64 k/\∀(j:Nat) (x:ByteArray),j<k->l[j]?=some x->x≠s) (λi=>n - (intOf i).toNat)
 case atStart=>exact⟨0,Nq _,rfl,λj x h=>ad⟩
 case round=>
  obtain⟨k,aj,rfl,bl⟩:=hrel;have b7:=ae bl;clear bl;by_cases ap:k<n
  .obtain⟨b,o,x,rfl,O,hx,hc⟩:=H.str ap;have aP:=ae hx;clear hx;by_cases hs:x=s
   .subst hs;go_wp2;go_ret;exact⟨ret_bool (zM aP.o).symm,rfl⟩
   .have q:=uh hs;have bH:=ae hs;clear hs;go_wp2
    go_round
    case rel=>exact⟨k+1,ad,by go_num,λj y bi bb=>by
     by_cases aw:j=k
     .subst aw;rw[aP.o] at bb;injection bb with bb;subst bb;exact bH.o
     .exact b7.o j y ad bb⟩
    case measure=>exact aH
  .have ce:k=n:=ad;have cT:=ae ce;clear ce;go_wp2;go_ret;exact⟨ret_bool (zL λj x bi=>b7.o j x (by have:=(List.getElem?_eq_some_iff.1 bi).1;have:=H.1;have:=cT.o;omega) bi).symm,rfl⟩
theorem na(w:World)(cs:Array Value)(t:TypeId)(l:NI)(hc:cs=(l.map Value.string).toArray)(hl:l.length=n):cp (EF o2) 1 (w.alloc (.cells cs t)) (w.alloc (.cells cs t)).heap.size (some ⟨w,0,none⟩) n l:=by
 subst hc;refine⟨hl,λ_=>⟨w,0,rfl,by simp,λk x hx=>⟨o2 x,rfl,rfl,λj v bi=>?_⟩⟩⟩;have cO:j=0/\v=.string x:=by
  exact AR
 obtain⟨rfl,rfl⟩:=cO;rw[(an.new w t _).cell];simp[hx]
def strOf(l:List UInt8):ByteArray:=⟨l.toArray⟩
theorem m4(L:List (List UInt8))(s:ByteArray):hasB (L.map strOf) s=decide (s.data.toList∈L):=by
 unfold hasB;rw[Bool.eq_iff_iff,List.any_eq_true,Ny];constructor
 .rintro⟨x,hx,he⟩;obtain⟨y,bb,rfl⟩:=Ns.1 hx;simp only[Ny] at he;subst he;exact bb
 .intro h;refine⟨strOf s.data.toList,Ns.2 ⟨_,h,rfl⟩,?_⟩;simp[strOf]
def iG(s:ByteArray):Bool:=cz s.data.toList
theorem np(s:ByteArray)(w:World):Calls prog 75 #[s] w λe ab=>e=.returned (.bool (iG s))/\Ext w ab:=by
 go_enter func75,ntmps75;go_wp2_with(fail);refine(pB _ 11 11 (rv.map strOf) s _ (na w _ _ _ rfl rfl) ad).mono ?_;rintro e ab ⟨rfl,rfl⟩;go_wp2;go_ret;exact⟨ret_bool (m4 _ _),NC.alloc _⟩
def jX(s:ByteArray):Bool:=bB s.data.toList
theorem sw(hx:l[k]?=some x)(hl:bX x=false)(aj:k=0\/bC x=false):bB l=false:=by
 cases l with
 | nil=>simp at hx
 | cons c l=>
  unfold bB;simp only[Bool.and_eq_false_iff];left;left
  cases k with
  | zero=>
   simp at hx;subst hx
   exact .inl hl
  | succ k=>
   right;rw[List.getElem?_cons_succ] at hx;have hd:=aj.resolve_left ad;rw[List.all_eq_false];exact⟨x,M4 hx,by simp[ck,hl,hd]⟩
theorem xr(h:∀(j:Nat) (x:UInt8),l[j]?=some x->bX x=true\/(0<j/\bC x=true)):bB l=(decide (1<=l.length) && decide (l.length<=16) && !cz l):=by
 cases l with
 | nil=>rfl
 | cons c l=>
  have h0:=(h 0 c rfl).resolve_right ad;have y:l.all ck=true:=by
   rw[List.all_eq_true];intro x hx;obtain⟨j,bi⟩:=List.getElem?_of_mem hx;have:=h (j+1) x (by rw[List.getElem?_cons_succ];exact bi);unfold ck;rcases this with ac|ac<;>simp[ac]
  unfold bB;simp[h0,y]
theorem byte_at(h:k<s.size):s.data.toList[k]?=some s[k]:=by
 rw[List.getElem?_eq_getElem (by simpa using h)];rfl
theorem hB(s:ByteArray)(w:World)(hs:s.size<=1000000):Calls prog 80 #[s] w λe ab=>e=.returned (.bool (jX s))/\Ext w ab:=by
 go_enter func80,ntmps80;go_wp2
 go_loop [3] (λi=>∃k:Nat,k<=s.size/\i=.int .i64 k/\∀(j:Nat) (x:UInt8),j<k->s.data.toList[j]?=some x->bX x=true\/(0<j/\bC x=true)) (λi=>s.size - (intOf i).toNat)
 case atStart=>exact⟨0,Nq _,rfl,λj x h=>ad⟩
 case round=>
  obtain⟨k,aj,rfl,bl⟩:=hrel;have b7:=ae bl;clear bl;by_cases ap:k<s.size
  .have I:=ae (byte_at ap);have step:(bX s[k]=true\/(0<k/\bC s[k]=true))->∀(j:Nat) (x:UInt8),j<k+1->s.data.toList[j]?=some x->bX x=true\/(0<j/\bC x=true):=by
    intro h j x bi hx;by_cases aw:j=k
    .subst aw;rw[I.o] at hx;injection hx with hx;subst hx;exact h
    .exact b7.o j x ad hx
   have bH:=ae step;clear step;go_wp2_with(fail);refine(mz s[k] w).mono ?_;rintro e ab ⟨rfl,rfl⟩;by_cases hl:bX s[k]=true
   .rw[hl];have bT:=ae hl;clear hl;go_wp2
    go_round
    case rel=>exact⟨k+1,ad,by go_num,bH.o (.inl bT.o)⟩
    case measure=>exact aH
   .have aB:bX s[k]=false:=by simpa using hl
    rw[aB];have bT:=ae aB;clear hl aB;by_cases bE:k=0
    .have cT:=ae bE;subst bE;go_wp2;go_ret;exact⟨ret_bool (sw I.o bT.o (.inl rfl)).symm,NC⟩
    .have q:((k:Int) == 0)=false:=by simpa using bE
     have z:(k == 0)=false:=by simpa using bE
     have cT:=ae bE;clear bE;go_wp2_with(fail);refine(lq s[k] w).mono ?_;rintro e ab ⟨rfl,rfl⟩;by_cases hd:bC s[k]=true
     .rw[hd];have dS:=ae hd;clear hd;go_wp2
      go_round
      case rel=>exact⟨k+1,ad,by go_num,bH.o (.inr ⟨by have:=cT.o;omega,dS.o⟩)⟩
      case measure=>exact aH
     .have C:bC s[k]=false:=by simpa using hd
      rw[C];have dS:=ae C;clear hd C;go_wp2;go_ret;exact⟨ret_bool (sw I.o bT.o (.inr dS.o)).symm,NC⟩
  .have ce:k=s.size:=ad;have m:jX s=(decide (1<=s.size) && decide (s.size<=16) && !iG s):=by
    have:=xr (l:=s.data.toList) (λj x hx=>b7.o j x (by have:=(List.getElem?_eq_some_iff.1 hx).1;simp at this;rw[ce];exact this) hx);simpa[jX,iG] using this
   have I:=ae m;subst ce;clear m;by_cases ac:1<=s.size/\s.size<=16
   .have q1:decide ((s.size:Int)>=1)=true:=by simp;omega
    have cL:decide ((s.size:Int)<=16)=true:=by simp;omega
    have a3:=ae (show jX s=!iG s by rw[I.o];simp[ac]);clear ac;go_wp2_with(fail);refine(np s w).mono ?_;rintro e ab ⟨rfl,O⟩;have bL:=ae O;clear O;go_wp2;go_ret;exact⟨ret_bool a3.symm,bL.o⟩
   .have a3:=ae (show jX s=false by rw[I.o];simp;omega);by_cases az:1<=s.size
    .have q1:decide ((s.size:Int)>=1)=true:=by simp;omega
     have cL:decide ((s.size:Int)<=16)=false:=by simp;omega
     clear ac az;go_wp2;go_ret;exact⟨ret_bool a3.symm,NC⟩
    .have q1:decide ((s.size:Int)>=1)=false:=by simp;omega
     clear ac az;go_wp2;go_ret;exact⟨ret_bool a3.symm,NC⟩
structure e4(w:World)(b o cap:Nat)(s:ByteArray):Prop where
 bytes:Lib.Bytes w b o s
 lt:b<w.heap.size
 fit:s.size<=cap
 small:s.size<=1000000
theorem e4.on(h:e4 w b o cap s)(O:Ext w ab):e4 ab b o cap s:=
 ⟨λi aN=>(O.cell h.lt (λh=>h)).trans (h.bytes i aN),M0 h.lt O.size,h.fit,h.small⟩
theorem gC(s:ByteArray)(j n:Nat):(s.extract j (j+n)).data.toList=(s.data.toList.drop j).take n:=by
 rw[Lib.extract_data,Nat.add_sub_cancel_left]
theorem xV(s:ByteArray):strOf s.data.toList=s:=by
 unfold strOf;cases s
 simp
theorem oo(hc:s.size<=cap)(hn:0<n)(aj:k+n<=s.size)(W:World):
  (Instr.slice 65 (.slice (some ⟨b,o,none⟩) s.size cap) (some (.int .i64 (k:Int))) (some (.int .i64 ((k:Int)+(n:Int)))) none).run prog W=.ok (.slice (some ⟨b,o+k,none⟩) n (cap - k)) W:=by
 have:=Lib.run_slice_window (P:=prog) W 65 5 Tryz.underlying65 (λw=>by kernel_rfl) b o s.size cap k (k+n) ad ad;rw[show k+n - k=n by omega,Int.natCast_add] at this;exact this
theorem ks(h:e4 w b o cap s)(c:Nat)(aj:k+n<=s.size):
  (convert 65 9 (.slice (some ⟨b,o+k,none⟩) n c)).run prog w=.ok (.string (s.extract k (k+n))) w:=
 Lib.run_convert_window w _ _ _ Tryz.underlying65 Tryz.underlying5 Tryz.underlying9 b o s h.bytes k n c aj
theorem FU(s:ByteArray)(b o cap k:Nat)(w:World)(h:e4 w b o cap s)(aj:k<s.size) :
  Calls prog 77 #[.slice (some ⟨b,o,none⟩) s.size cap,k] w λe ab=>e=.returned (.int .i64 (fm (s.data.toList.drop k)))/\Ext w ab:=by
 have H:=ae h;have U:=h.small;have M:=h.fit;have s1:=λW=>oo (b:=b) (o:=o) h.fit (k:=k) (n:=1) ad ad W;have cd:∀W,Ext w W->∀(cs:Array Value) (t:TypeId),(convert 65 9 (.slice (some ⟨b,o+k,none⟩) 1 (cap - k))).run prog (W.alloc (.cells cs t))=.ok (.string (s.extract k (k+1))) (W.alloc (.cells cs t)):=λW be cs t=>ks (h.on (be.alloc (.cells cs t))) (k:=k) (n:=1) (cap - k) ad;have S:=ae cd;clear cd;have hi:(0:Int)<=(k:Int):=ad;clear h;by_cases az:k+1<s.size
 .have s2:=λW=>oo (b:=b) (o:=o) M (k:=k) (n:=2) ad ad W;have c2:=λ(cs:Array Value) (t:TypeId)=>ks (H.on (NC.alloc (.cells cs t))) (k:=k) (n:=2) (cap - k) ad;simp only[Int.cast_ofNat_Int] at s1 s2;go_enter func77,ntmps77;go_wp2_with(fail);refine(pB _ 6 6 (fo.map strOf) _ _ (na w _ _ _ rfl rfl) ad).mono ?_;rintro e ab ⟨rfl,rfl⟩;rw[m4,gC];have cm:decide (2<=(s.data.toList.drop k).length)=true:=by simp;omega
  by_cases hm:(s.data.toList.drop k).take 2∈fo
  .have a3:=ae (show fm (s.data.toList.drop k)=2 by unfold fm;rw[decide_eq_true hm,cm];rfl);rw[decide_eq_true hm];clear hm cm;exact wv
  .have a3:=ae (show fm (s.data.toList.drop k)=if decide ((s.data.toList.drop k).take 1∈eC) then 1 else 0 by unfold fm;rw[decide_eq_false hm];rfl);rw[decide_eq_false hm];clear hm cm c2 s2;generalize be:World.alloc w _=W;have aF:=aX be;have c1:=S.o W aF;clear be;go_wp2_with(fail);refine(pB _ 17 17 (eC.map strOf) _ _ (na W _ _ _ rfl rfl) ad).mono ?_;rintro e ab ⟨rfl,rfl⟩;rw[m4,gC];by_cases hm:(s.data.toList.drop k).take 1∈eC
   .rw[decide_eq_true hm] at a3 ⊢;exact A8
   .rw[decide_eq_false hm] at a3 ⊢;exact A8
 .have cm:decide (2<=(s.data.toList.drop k).length)=false:=by simp;omega
  have de:decide ((k:Int)+1<(s.size:Int))=false:=by simp;omega
  have dc:¬(k:Int)+1<(s.size:Int):=ad;have a3:=ae (show fm (s.data.toList.drop k)=if decide ((s.data.toList.drop k).take 1∈eC) then 1 else 0 by unfold fm;rw[cm,Bool.and_false];rfl);simp only[Int.cast_ofNat_Int] at s1;clear cm;go_enter func77,ntmps77;have c1:=S.o w NC;go_wp2_with(fail);refine(pB _ 17 17 (eC.map strOf) _ _ (na w _ _ _ rfl rfl) ad).mono ?_;rintro e ab ⟨rfl,rfl⟩;rw[m4,gC];by_cases hm:(s.data.toList.drop k).take 1∈eC
  .rw[decide_eq_true hm] at a3 ⊢;clear hm;exact wv
  .rw[decide_eq_false hm] at a3 ⊢;clear hm;exact wv
theorem e4.byte(h:e4 w b o cap s)(aj:k<s.size):w.cell? ⟨b,o+k,none⟩=some (.int .u8 (s[k].toNat:Int)):=h.bytes k aj
theorem df(h:k<s.size):s.data.toList.drop k=s[k]::s.data.toList.drop (k+1):=by
 rw[List.drop_eq_getElem_cons (by simpa using h)];rfl
theorem rE(c:UInt8):pj c=true↔c.toNat=32\/c.toNat=9\/c.toNat=10\/c.toNat=13:=by
 simp only[pj,Bool.or_eq_true,beq_iff_eq,<-UInt8.toNat_inj];show ((c.toNat=32\/c.toNat=9)\/c.toNat=10)\/c.toNat=13↔_
 omega
theorem pv(c:UInt8):c=47↔c.toNat=47:=by rw[<-UInt8.toNat_inj];rfl
theorem yG(c:UInt8):c=10↔c.toNat=10:=by rw[<-UInt8.toNat_inj];rfl
theorem lM(h:pj c=true):aT false (c::l)=aT false l:=by rw[aT,if_pos h]
theorem og(h:pj c=false)(az:¬(c=47/\l.head?=some 47)):aT false (c::l)=c::l:=by rw[aT,if_neg (by simp[h]),if_neg az]
theorem y7(h:c≠10):aT true (c::l)=aT true l:=by rw[aT,if_neg h]
theorem FW(h:c=47)(az:l.head?=some 47):aT false (c::l)=aT true (c::l):=by
 subst h;have a:aT false (47::l)=aT true l:=by rw[aT,if_neg (by decide),if_pos ⟨rfl,az⟩]
 exact a.trans (y7 (by decide)).symm
theorem FY:aT true (10::l)=aT false (10::l):=by
 have a:aT true (10::l)=aT false l:=by rw[aT,if_pos rfl]
 exact a.trans (lM (by decide)).symm
theorem FX(b:Bool):aT b []=[]:=by cases b<;>rfl
theorem k8(s:ByteArray)(b o cap k:Nat)(w:World)(h:e4 w b o cap s)(aj:k<=s.size) :
  Calls prog 72 #[.slice (some ⟨b,o,none⟩) s.size cap,k] w λe ab=>e=.returned (.int .i64 ((s.size:Int) - (aT false (s.data.toList.drop k)).length))/\w=ab:=by
 have H:=ae h;have U:=h.small;clear h;go_enter func72,ntmps72;go_wp2
 go_loop [1] (λi=>∃j:Nat,j<=s.size/\i=.int .i64 j/\aT false (s.data.toList.drop k)=aT false (s.data.toList.drop j)) (λi=>s.size - (intOf i).toNat)
 case atStart=>exact⟨k,aj,rfl,rfl⟩
 case round=>
  obtain⟨j,bi,rfl,g⟩:=hrel;have E:=ae g;clear g;by_cases ap:j<s.size
  .have hc:=H.byte ap;have bh:(0:Int)<=(j:Int):=ad;have cj:(j:Int)<(s.size:Int):=ad;by_cases aD:s[j].toNat=32
   .have F:(((s[j].toNat:Nat):Int) == 32)=true:=by simp[aD]
    have al:=ae (E.trans ((congrArg _ (df ap)).trans (lM ((rE _).2 ad))));clear aD;go_wp2
    go_round
    case rel=>exact⟨j+1,ad,by go_num,al.o⟩
    case measure=>exact aH
   by_cases bu:s[j].toNat=9
   .have cA:(((s[j].toNat:Nat):Int) == 9)=true:=by simp[bu]
    have n:(((s[j].toNat:Nat):Int) == 32)=false:=by simp;omega
    have al:=ae (E.trans ((congrArg _ (df ap)).trans (lM ((rE _).2 ad))));clear bu aD;go_wp2
    go_round
    case rel=>exact⟨j+1,ad,by go_num,al.o⟩
    case measure=>exact aH
   by_cases c:s[j].toNat=10
   .have Gt:(((s[j].toNat:Nat):Int) == 10)=true:=by simp[c]
    have n:(((s[j].toNat:Nat):Int) == 32)=false:=by simp;omega
    have z:(((s[j].toNat:Nat):Int) == 9)=false:=by simp;omega
    have al:=ae (E.trans ((congrArg _ (df ap)).trans (lM ((rE _).2 ad))));clear c aD bu;go_wp2
    go_round
    case rel=>exact⟨j+1,ad,by go_num,al.o⟩
    case measure=>exact aH
   by_cases f:s[j].toNat=13
   .have D:(((s[j].toNat:Nat):Int) == 13)=true:=by simp[f]
    have n:(((s[j].toNat:Nat):Int) == 32)=false:=by simp;omega
    have z:(((s[j].toNat:Nat):Int) == 9)=false:=by simp;omega
    have t:(((s[j].toNat:Nat):Int) == 10)=false:=by simp;omega
    have al:=ae (E.trans ((congrArg _ (df ap)).trans (lM ((rE _).2 ad))));clear f aD bu c;go_wp2
    go_round
    case rel=>exact⟨j+1,ad,by go_num,al.o⟩
    case measure=>exact aH
   have n:(((s[j].toNat:Nat):Int) == 32)=false:=by simp;omega
   have z:(((s[j].toNat:Nat):Int) == 9)=false:=by simp;omega
   have t:(((s[j].toNat:Nat):Int) == 10)=false:=by simp;omega
   have C:(((s[j].toNat:Nat):Int) == 13)=false:=by simp;omega
   have mL:pj s[j]=false:=by
    cases hw:pj s[j] with
    | false=>rfl
    | true=>have:=(rE _).1 hw;omega
   have aX:=ae mL;clear mL aD bu c f;have u:∀l:List UInt8,l=s.data.toList.drop j->((s.size:Int) - l.length)=j:=λl hl=>by subst hl;simp;omega
   by_cases az:j+1<s.size
   .have b8:=H.byte az;have cB:((j+1:Nat):Int)=(j:Int)+1:=ad;have dx:decide ((j:Int)+1<(s.size:Int))=true:=by simp;omega
    by_cases a:s[j].toNat=47
    .have x:(((s[j].toNat:Nat):Int) == 47)=true:=by simp[a]
     by_cases d:s[j+1].toNat=47
     .have y:(((s[j+1].toNat:Nat):Int) == 47)=true:=by simp[d]
      have bY:=ae (show aT false (s.data.toList.drop k)=aT true (s.data.toList.drop j) by
       rw[E.o,df ap];refine FW ((pv _).2 a) ?_;rw[df az,List.head?_cons,(pv _).2 d])
      have b7:=ae (show s[j].toNat≠10 by omega);clear a d;go_wp2
      go_loop [1] (λi=>∃m:Nat,j<=m/\m<=s.size/\i=.int .i64 m/\aT false (s.data.toList.drop k)=aT true (s.data.toList.drop m)) (λi=>s.size - (intOf i).toNat)
      case atStart=>exact⟨j,MU _,bi,rfl,bY.o⟩
      case round=>
       obtain⟨m,A,hm,rfl,P⟩:=hrel;have dX:=ae P;clear P;by_cases bN:m<s.size
       .have v:=H.byte bN;have ci:(0:Int)<=(m:Int):=ad;have cr:(m:Int)<(s.size:Int):=ad;by_cases c:s[m].toNat=10
        .have Gt:(((s[m].toNat:Nat):Int) != 10)=false:=by simp[c]
         have B:m≠j:=by
          rintro rfl;exact b7.o c
         have bk:=ae (show aT false (s.data.toList.drop k)=aT false (s.data.toList.drop m) by rw[dX.o,df bN,(yG _).2 c];exact FY);clear c;go_wp2
         go_round
         case rel=>exact⟨m,hm,rfl,bk.o⟩
         case measure=>exact aH
        .have Gt:(((s[m].toNat:Nat):Int) != 10)=true:=by simp;omega
         have bk:=ae (show aT false (s.data.toList.drop k)=aT true (s.data.toList.drop (m+1)) by rw[dX.o,df bN];exact y7 (λh=>c ((yG _).1 h)));clear c;go_wp2
         go_round
         case rel=>exact⟨m+1,ad,ad,by go_num,bk.o⟩
         case measure=>exact aH
       .have q:m=s.size:=ad;have bk:=ae (show aT false (s.data.toList.drop k)=aT false (s.data.toList.drop m) by
         rw[dX.o,q,Nx (by simp)];rfl)
        clear q;go_wp2
        go_round
        case rel=>exact⟨m,hm,rfl,bk.o⟩
        case measure=>exact aH
     .have y:(((s[j+1].toNat:Nat):Int) == 47)=false:=by simp;omega
      have a3:=ae (u _ (E.trans ((congrArg _ (df ap)).trans ((og aX.o (by
       rintro⟨_,h⟩;rw[df az,List.head?_cons] at h;injection h with h;exact d ((pv _).1 h))).trans (df ap).symm))))
      clear a d u;go_wp2;go_ret;exact⟨ret_int a3.symm,rfl⟩
    .have x:(((s[j].toNat:Nat):Int) == 47)=false:=by simp;omega
     have a3:=ae (u _ (E.trans ((congrArg _ (df ap)).trans ((og aX.o (λh=>a ((pv _).1 h.1))).trans (df ap).symm))));clear a u;go_wp2;go_ret;exact⟨ret_int a3.symm,rfl⟩
   .have dx:decide ((j:Int)+1<(s.size:Int))=false:=by simp;omega
    have a3:=ae (u _ (E.trans ((congrArg _ (df ap)).trans ((og aX.o (by
     rintro⟨_,h⟩;rw[Nx (by simp;omega)] at h;cases h)).trans (df ap).symm))))
    clear az u;go_wp2;go_ret;exact⟨ret_int a3.symm,rfl⟩
  .have r:j=s.size:=ad;have a3:=ae (show (s.size:Int) - (aT false (s.data.toList.drop k)).length=s.size by rw[E.o,r,Nx (by simp)];simp[FX]);subst r;go_wp2;go_ret;exact⟨ret_int a3.symm,rfl⟩
theorem vm(h:(x.toNat:Int)=d+48)(v:Int)(l:List UInt8):iY v (x::l)=if (9223372036854775807 - d) / 10<v then -1 else iY (10*v+d) l:=by
 simp only[iY];rw[h,show d+48 - 48=d by omega]
theorem zZ{v:Int}(h:v<=(9223372036854775807 - d) / 10)(hd:0<=d/\d<=9)(bK:0<=v):0<=10*v+d/\10*v+d<=9223372036854775807:=ad
theorem xu(s:ByteArray)(b o cap k n c:Nat)(w:World)(h:e4 w b o cap s)(aj:k+n<=s.size)(hd:((s.data.toList.drop k).take n).all bC=true) :
  Calls prog 76 #[.slice (some ⟨b,o+k,none⟩) n c] w λe ab=>e=.returned (.int .i64 (nZ ((s.data.toList.drop k).take n)))/\w=ab:=by
 have H:=ae h;have U:=h.small;have dS:=ae hd;clear h hd;go_enter func76,ntmps76;go_wp2
 go_loop [3,4] (λa i=>∃(j:Nat) (v:Int),j<=n/\0<=v/\v<=9223372036854775807/\a=.int .i64 v/\i=.int .i64 j/\iY v (((s.data.toList.drop k).take n).drop j)=nZ ((s.data.toList.drop k).take n)) (λ_ i=>n - (intOf i).toNat)
 case atStart=>exact⟨0,0,Nq _,ad,ad,rfl,rfl,rfl⟩
 case round=>
  obtain⟨j,v,bi,r,eh,rfl,rfl,g⟩:=hrel;have E:=ae g;clear g;by_cases ap:j<n
  .have hc:=H.byte (k:=k+j) ad;rw[<-Nat.add_assoc] at hc;have f:((s.data.toList.drop k).take n)[j]?=some s[k+j]:=by
    rw[List.getElem?_take_of_lt ap,List.getElem?_drop];exact byte_at ad
   have m:bC s[k+j]=true:=List.all_eq_true.1 dS.o _ (M4 f);have q:48<=s[k+j].toNat/\s[k+j].toNat<=57:=by simpa[bC] using m
   have be:((s.data.toList.drop k).take n).drop j=s[k+j]::((s.data.toList.drop k).take n).drop (j+1):=by
    have hl:=(List.getElem?_eq_some_iff.1 f)
    rw[List.drop_eq_getElem_cons hl.1,hl.2]
   have aP:=ae (E.symm.trans (congrArg (iY v) be));clear f m be;generalize s[k+j]=x at *;obtain⟨d,l⟩:∃d:Int,(x.toNat:Int)=d+48:=⟨(x.toNat:Int) - 48,ad⟩
   rw[l] at hc;have N:=ae l;have d0:0<=d:=ad;have d1:d<=9:=ad;clear l q;by_cases bf:(9223372036854775807 - d) / 10<v
   .have a3:=ae (aP.trans ((vm N.o v _).trans (if_pos bf)));go_wp2;go_ret;exact⟨ret_int a3.symm,rfl⟩
   .have a3:=ae (aP.trans ((vm N.o v _).trans (if_neg bf)));have bL:=ae (zZ ad ⟨d0,d1⟩ r);go_wp2
    go_round
    case rel=>exact⟨j+1,10*v+d,ad,bL.1,bL.2,rfl,by go_num,a3.symm⟩
    case measure=>exact aH
  .have K:j=n:=ad;have a3:=ae (show v=nZ ((s.data.toList.drop k).take n) by
    rw[<-E.o,K,Nx (by simp;omega)];rfl)
   clear K;go_wp2;go_ret;exact⟨ret_int a3.o,rfl⟩
def rN(t:Tok):List Value:=[.int .i64 t.kind,.string (strOf t.text),.int .i64 t.num,.int .i64 t.pos]
theorem Fi(l:List Tok):∀x∈l,(rN x).length=4:=λ_ _=>rfl
theorem lX(l:List Tok)(x:Tok):(l++[x]).flatMap rN=l.flatMap rN++rN x:=by
 rw[List.flatMap_append];simp
theorem p5:cq prog 99 122 (.agg #[(0:Int),NF,(0:Int),(0:Int)]) 4 40:=cq.mk' Tryz.underlying99 (by kernel_rfl) rfl ad
theorem e4.He(h:e4 w b o cap s)(O:Below w w ab):e4 ab b o cap s:=h.on (Fr.of O)
def kO(w:World)(r:List Tok×Int×Int)(e:Ending)(ab:World):Prop:=
 ∃A n c,e=.returned (.tuple #[.slice A n c,.int .i64 r.2.1,.int .i64 r.2.2])/\n<=c/\cp (EF rN) 4 ab ab.heap.size A n r.1/\Below w.heap.size w ab
theorem kO.bad{p q:Int}{r:List Tok×Int×Int}(ba:r=([],p,q))(O:Below w w ab):kO w r (.returned (.tuple #[(),p,q])) ab:=by
 subst ba;exact⟨none,0,0,rfl,MU _,cp.bY _,O⟩
structure uw(w wr:World)(s:ByteArray)(k:Nat)(acc:List Tok)(out:Value):Prop where
 own:wr.ownsRow w.heap.size 122 4 out acc.length (acc.flatMap rN)
 jo:acc.length<=4000
 le:k<=s.size
 skip:aT false (s.data.toList.drop k)=s.data.toList.drop k
 G0:fI (s.size - k+1) s.size (s.data.toList.drop k) acc=dU s.data.toList
 below:Below w.heap.size w wr
theorem mU(s:ByteArray)(k:Nat):(s.data.toList.drop k).length=s.size - k:=by simp
theorem hR:∀(b:Bool) (l:List UInt8),∃n,aT b l=l.drop n/\n<=l.length
 | b,[]=>⟨0,by cases b<;>rfl,MU _⟩
 | true,c::l=>by
  by_cases h:c=10
  .obtain⟨n,ac,az⟩:=hR false l;exact⟨n+1,by rw[aT,if_pos h,ac];rfl,by simp;omega⟩
  .obtain⟨n,ac,az⟩:=hR true l
   exact⟨n+1,by rw[aT,if_neg h,ac];rfl,by simp;omega⟩
 | false,c::l=>by
  by_cases h:pj c=true
  .obtain⟨n,ac,az⟩:=hR false l;exact⟨n+1,by rw[aT,if_pos h,ac];rfl,by simp;omega⟩
  .by_cases az:c=47/\l.head?=some 47
   .obtain⟨n,ac,aV⟩:=hR true l;exact⟨n+1,by rw[aT,if_neg h,if_pos az,ac];rfl,by simp;omega⟩
   .exact⟨0,by rw[aT,if_neg h,if_neg az];rfl,by simp⟩
theorem iH:∀(b:Bool) (l:List UInt8),aT false (aT b l)=aT b l
 | b,[]=>by cases b<;>rfl
 | true,c::l=>by
  rw[aT];split
  .exact iH false l
  .exact iH true l
 | false,c::l=>by
  by_cases h:pj c=true
  .rw[lM h];exact iH false l
  .by_cases az:c=47/\l.head?=some 47
   .have e:aT false (c::l)=aT true l:=by rw[aT,if_neg h,if_pos az]
    rw[e];exact iH true l
   .have e:aT false (c::l)=c::l:=by rw[aT,if_neg h,if_neg az]
    rw[e,e]
theorem nu(s:ByteArray)(m:Nat)(hm:m<=s.size):∃k,m<=k/\k<=s.size/\aT false (s.data.toList.drop m)=s.data.toList.drop k/\aT false (s.data.toList.drop k)=s.data.toList.drop k/\(s.size:Int) - (aT false (s.data.toList.drop m)).length=k:=by
 obtain⟨n,ac,az⟩:=hR false (s.data.toList.drop m);have hl:(s.data.toList.drop m).length=s.size - m:=by simp
 refine⟨m+n,ad,ad,?_,?_,?_⟩
 .rw[ac,List.drop_drop]
 .rw[<-List.drop_drop,<-ac];exact iH _ _
 .rw[ac,List.length_drop,hl];omega
theorem sr(f n:Nat)(l:List UInt8)(acc:List Tok):fI f n l acc=fI f n (aT false l) acc:=by
 cases f with
 | zero=>rfl
 | succ f=>unfold fI;rw[iH]
theorem lE:∀(f g n:Nat) (l:List UInt8) (acc:List Tok),l.length<f->l.length<g->fI f n l acc=fI g n l acc
 | 0,g,n,l,acc,h,_=>ad
 | f+1,0,n,l,acc,_,h=>ad
 | f+1,g+1,n,l,acc,J,aR=>by
  unfold fI;have hs:=j1 false l
  cases aj:aT false l with
  | nil=>rfl
  | cons c r=>
   rw[aj] at hs;simp only[Nh] at hs;have e1:∀p:UInt8->Bool,p c=true->((c::r).dropWhile p).length<f/\((c::r).dropWhile p).length<g:=λp hp=>by
    have:((c::r).dropWhile p).length<=r.length:=by
     rw[List.dropWhile_cons,if_pos hp];have:=(List.dropWhile_sublist p (l:=r)).length_le;exact this
    omega
   have e2:∀k,k≠0->((c::r).drop k).length<f/\((c::r).drop k).length<g:=λk aj=>by
    simp only[List.length_drop,Nh];omega
   simp only[];by_cases hl:bX c=true
   .simp only[hl,if_true];have z:ck c=true:=by simp[ck,hl]
    rw[lE f g n _ _ (e1 _ z).1 (e1 _ z).2]
   .simp only[hl,Nz,if_false];by_cases hd:bC c=true
    .simp only[hd,if_true];rw[lE f g n _ _ (e1 _ hd).1 (e1 _ hd).2]
    .simp only[hd,Nz,if_false];by_cases aI:fm (c::r)=0
     .simp only[aI,if_true]
     .simp only[aI,if_false];rw[lE f g n _ _ (e2 _ aI).1 (e2 _ aI).2]
theorem uw.next{wr b:World}{m F:Nat}{out a:Value}{t:Tok}(h:uw w wr s k acc out)
  (aB:b.ownsRow w.heap.size 122 4 a (acc.length+1) (acc.flatMap rN++rN t)) (hn:acc.length≠4000) (M:k<m) (hm:m<=s.size)
  (he:fI (s.size - k+1) s.size (s.data.toList.drop k) acc=fI (s.size - k) s.size (s.data.toList.drop m) (acc++[t])) (O:Below w w b)
  (ce:m<=F) (cK:F<=s.size) (cn:aT false (s.data.toList.drop m)=s.data.toList.drop F) (bO:aT false (s.data.toList.drop F)=s.data.toList.drop F):uw w b s F (acc++[t]) a:=by
 have J:=h.jo;refine⟨by rw[lX,M3];exact aB,by simp;omega,cK,bO,?_,O⟩;rw[<-h.G0,he,sr (s.size - k),cn];exact A7
theorem xj(s:ByteArray)(hs:s.size<=262144)(ac:aT false (s.data.toList.drop 0)=s.data.toList.drop k):fI (s.size - k+1) s.size (s.data.toList.drop k) []=dU s.data.toList:=by
 have hl:s.data.toList.length=s.size:=by simp
 have g:aT false s.data.toList=s.data.toList.drop k:=by simpa using ac
 unfold dU;rw[hl,if_neg ad,sr (s.size+1),g];exact A7
theorem Fj(f n:Nat)(acc:List Tok):fI (f+1) n [] acc=(acc++[⟨5,[],0,(n:Int)⟩],(n:Int),0):=by simp[fI,aT]
theorem vS:s.data.toList.drop k=(s.data.toList.drop k).take n++s.data.toList.drop (k+n):=by
 rw[<-List.drop_drop,List.take_append_drop]
theorem sx(h:∀hl:k+n<s.size,p (s[k+n]'hl)=false):∀c,(s.data.toList.drop (k+n)).head?=some c->p c=false:=by
 intro c hc;by_cases hl:k+n<s.size
 .rw[df hl] at hc;simp at hc;subst hc;exact h hl
 .rw[Nx (by simp;omega)] at hc;cases hc
theorem tI(h:k<s.size):((s.size:Nat):Int) - ((s.data.toList.drop (k+1)).length+1)=(k:Int):=by rw[mU];omega
theorem zQ(aj:k<s.size)(g:aT false (s.data.toList.drop k)=s.data.toList.drop k)(hl:bX s[k]=true)(y:((s.data.toList.drop k).take n).all ck=true)
  (u:∀h:k+n<s.size,ck (s[k+n]'h)=false) :
  fI (f+1) s.size (s.data.toList.drop k) acc=if (!cz ((s.data.toList.drop k).take n) && decide (16<((s.data.toList.drop k).take n).length))=true then ([],(k:Int),3)
   else if acc.length=4000 then ([],(k:Int),3) else fI f s.size (s.data.toList.drop (k+n)) (acc++[⟨if cz ((s.data.toList.drop k).take n) then 3 else 1,(s.data.toList.drop k).take n,0,(k:Int)⟩]):=by
 have e:=hr y (sx u);rw[<-vS] at e;rw[fI,g];rw[df aj] at e ⊢;simp only[hl,if_true,e.1,e.2,tI aj]
theorem Fk(aj:k<s.size)(g:aT false (s.data.toList.drop k)=s.data.toList.drop k)(hl:bX s[k]=false)(hd:bC s[k]=true)(y:((s.data.toList.drop k).take n).all bC=true)
  (u:∀h:k+n<s.size,bC (s[k+n]'h)=false) :
  fI (f+1) s.size (s.data.toList.drop k) acc=if nZ ((s.data.toList.drop k).take n)<0 then ([],(k:Int),2)
   else if acc.length=4000 then ([],(k:Int),3) else fI f s.size (s.data.toList.drop (k+n)) (acc++[⟨2,(s.data.toList.drop k).take n,nZ ((s.data.toList.drop k).take n),(k:Int)⟩]):=by
 have e:=hr y (sx u);rw[<-vS] at e;rw[fI,g];rw[df aj] at e ⊢;simp only[hl,hd,Nz,if_false,if_true,e.1,e.2,tI aj]
theorem zP(aj:k<s.size)(g:aT false (s.data.toList.drop k)=s.data.toList.drop k)(hl:bX s[k]=false)(hd:bC s[k]=false):
  fI (f+1) s.size (s.data.toList.drop k) acc=if fm (s.data.toList.drop k)=0 then ([],(k:Int),1)
   else if acc.length=4000 then ([],(k:Int),3) else fI f s.size (s.data.toList.drop (k+fm (s.data.toList.drop k))) (acc++[⟨4,(s.data.toList.drop k).take (fm (s.data.toList.drop k)),0,(k:Int)⟩]):=by
 have az:s.data.toList.drop (k+fm (s.data.toList.drop k))=(s.data.toList.drop k).drop (fm (s.data.toList.drop k)):=by rw[List.drop_drop]
 rw[az,fI,g];rw[df aj];simp only[hl,hd,Nz,if_false,tI aj]
theorem FT(l:List UInt8)(h:l≠[]):fm l<=l.length:=by
 unfold fm
 have:1<=l.length:=by cases l with
  | nil=>exact absurd rfl h
  | cons=>simp
 split
 .rename_i ag;simp only[Ng,Ny] at ag;exact ag.2
 .split<;>omega
theorem p1(hl:k+n<s.size)(h:((s.data.toList.drop k).take n).all p=true)(hp:p (s[k+n]'hl)=true):((s.data.toList.drop k).take (n+1)).all p=true:=by
 have aR:(s.data.toList.drop k)[n]?=some (s[k+n]'hl):=by rw[List.getElem?_drop];exact byte_at hl
 rw[aU aR,List.all_append,h];simp[hp]
theorem hk(hc:s.size<=cap)(hn:0<n)(aj:k+n<=s.size)(W:World):
  (Instr.slice 65 (.slice (some ⟨b,o,none⟩) s.size cap) (some (.int .i64 (k:Int))) (some (.int .i64 ((k:Int)+(n:Int)))) none).run prog W=.ok (.slice (some ⟨b,o+k,none⟩) n (cap - k)) W:=oo hc hn aj W
theorem rV(s:ByteArray)(k n:Nat):strOf ((s.data.toList.drop k).take n)=s.extract k (k+n):=by rw[<-gC,xV]
structure uz(wr X:World)(kind num:Int)(k:Nat):Prop where
 below:Below wr.heap.size wr X
 blk:an X wr.heap.size 122 #[.int .i64 kind,.string ⟨#[]⟩,.int .i64 num,.int .i64 k]
 lt:wr.heap.size<X.heap.size
theorem yR(s:ByteArray)(b o cap:Nat)(w:World)(h:e4 w b o cap s)(hs:s.size<=262144) :
  Calls prog 36 #[.slice (some ⟨b,o,none⟩) s.size cap] w (kO w (dU s.data.toList)):=by
 have H:=ae h;have M:=h.fit;clear h;go_enter func36,ntmps36;go_wp2_with(fail);refine(show Calls prog 72 #[.slice (some ⟨b,o,none⟩) s.size cap,(0:Int)] _ _ from k8 s b o cap 0 _ H.o (Nq _)).mono ?_;rintro e ab ⟨rfl,rfl⟩;obtain⟨cZ,_,bE,ac,az,aV⟩:=nu s 0 (Nq _);rw[aV];have aR:=ae (show uw w w s cZ [] (.slice none 0 0) from ⟨⟨by simp,.inl ⟨rfl,rfl⟩⟩,by simp,bE,az,xj s hs ac,Below.refl _ _⟩);clear ac az aV;go_wp2_with(fail);go_loopw [5,6] (λout i wr=>∃(k:Nat) (acc:List Tok),i=.int .i64 k/\uw w wr s k acc out) (λ_ i _=>s.size+1 - (intOf i).toNat)
 case atStart=>exact⟨cZ,[],rfl,aR.o⟩
 case round=>
  obtain⟨k,acc,rfl,bx⟩:=hrel;have bT:=ae bx;clear aR bE;obtain⟨A,c,aA,bM,_,_,_⟩:=bG bx.own;subst aA;have L:=bx.jo;have hle:=bx.le;clear bx;by_cases ap:k<s.size
  case neg=>
   have b3:k=s.size:=ad;have q:((k:Int) == (s.size:Int))=true:=by simp;omega
   have a3:=ae (show dU s.data.toList=(acc++[⟨5,[],0,(s.size:Int)⟩],(s.size:Int),0) by
    rw[<-bT.G0,b3,Nx (by simp)];exact Fj _ _ _)
   subst b3;go_wp2_with((at_builtin;refine b9 wr p5 rfl (.tmp 21) (.tmp 24) rfl w _ _ _ #[(5:Int),NF,(0:Int),.int .i64 s.size] rfl bT.own rfl rfl (by simp[Value.oneCell']) ad ad bT.below.size ?_;intro v2 aW S ao E;obtain⟨A2,c2,rfl,O,_⟩:=bG S))
   go_ret3
   rw[a3.o];refine⟨A2,acc.length+1,c2,rfl,O,gH (l:=acc++[⟨5,[],0,(s.size:Int)⟩]) (by rw[lX];exact S) (Fi _) (by simp),?_⟩;exact dy bT.below bT.own ao (MU _) bT.below.size
  have q:((k:Int) == (s.size:Int))=false:=by simp;omega
  have hc:=H.He bT.below;have aE:=hc.byte ap;have aF:=hc.lt;have R:∀(j:Nat) (bi:j<s.size) (cs:Array Value) (t:TypeId),(wr.alloc (.cells cs t)).cell? ⟨b,o+j,none⟩=some (.int .u8 (s[j].toNat:Int)):=λj bi cs t=>(hc.on (NC.alloc _)).byte bi;obtain⟨bY,ar⟩:=aJ hc R;have ci:=R k ap #[(0:Int),NF,(0:Int),k] 122;clear hc R;go_wp2_with(fail);refine(mz s[k] _).mono ?_;rintro e ab ⟨rfl,rfl⟩;by_cases hl:bX s[k]=true
  .rw[hl];have ay:=ae hl;clear hl ci;go_wp2_with(fail)
   go_loop [8] (λe=>∃n:Nat,k+n<=s.size/\e=.int .i64 ((k:Int)+(n:Int))/\((s.data.toList.drop k).take n).all ck=true) (λe=>s.size+1 - (intOf e).toNat)
   case atStart=>exact⟨0,ad,by simp,by simp⟩
   case round=>
    obtain⟨n,hn,rfl,y⟩:=hrel;have HA:=ae y;clear y;have t1:((k:Int)+(n:Int)).toNat=k+n:=ad;have bh:(0:Int)<=(k:Int)+(n:Int):=ad;by_cases cE:k+n<s.size
    case' pos=>
     have cr:=ar.o (k+n) cE #[(0:Int),NF,(0:Int),k] 122;have cj:(k:Int)+(n:Int)<(s.size:Int):=ad;go_wp2_with(fail);refine(mz s[k+n] _).mono ?_;rintro e ab ⟨rfl,rfl⟩;by_cases cm:bX s[k+n]=true
     .rw[cm];have ca:=ae (p1 (p:=ck) cE HA.o (by simp[ck,cm]));clear cm;go_wp2
      go_round
      case rel=>exact⟨n+1,ad,by simp;omega,ca.o⟩
      case measure=>exact aH
     have ag:bX s[k+n]=false:=by simpa using cm
     rw[ag];have ai:=ae ag;clear cm ag;go_wp2_with(fail);refine(lq s[k+n] _).mono ?_;rintro e ab ⟨rfl,rfl⟩;by_cases bc:bC s[k+n]=true
     .rw[bc];have ca:=ae (p1 (p:=ck) cE HA.o (by simp[ck,bc]));clear bc;go_wp2
      go_round
      case rel=>exact⟨n+1,ad,by simp;omega,ca.o⟩
      case measure=>exact aH
     have D:bC s[k+n]=false:=by simpa using bc
     rw[D];have z:ck s[k+n]=false:=by simp[ck,ai.o,D]
     have af:=ae (show 0<n from by
      rcases Nat.eq_zero_or_pos n with h0|h0
      .subst h0;have:=ai.o;simp only[Nd] at this;rw[ay.o] at this;cases this
      .exact h0)
     have J:=ae (show ∀h:k+n<s.size,ck (s[k+n]'h)=false from λ_=>z);clear bc D z cr
    case' neg=>
     have cj:decide ((k:Int)+(n:Int)<(s.size:Int))=false:=by simp;omega
     have af:=ae (show 0<n by omega);have J:=ae (show ∀h:k+n<s.size,ck (s[k+n]'h)=false from λh=>absurd h cE)
    all_goals
     have bf:0<n:=af.o;have K:=ae (bT.G0.symm.trans (zQ (f:=s.size - k) (acc:=acc) ap bT.skip ay.o HA.o J.o));have s2:=λW=>hk (b:=b) (o:=o) M bf hn W;have c2:=λ(cs:Array Value) (t:TypeId)=>ks (bY.on (NC.alloc (.cells cs t))) (k:=k) (n:=n) (cap - k) hn;go_wp2_with(fail);refine(np (s.extract k (k+n)) _).mono ?_;rintro e aW ⟨rfl,bn⟩;clear s2 c2;have d:uz wr aW 1 0 k:=by
      have e1:Ext wr aW:=(NC.alloc _).trans bn;have am:=(an.new wr 122 #[(1:Int),NF,(0:Int),k]).aj bn;exact⟨Fr.ext e1,am,am.lt⟩
     clear bn;have N:=ae d;obtain⟨Z,aj,aq⟩:=d.blk.two;clear d;have aC:iG (s.extract k (k+n))=cz ((s.data.toList.drop k).take n):=by unfold iG;rw[gC]
     rw[aC];clear aC;have hlen:((s.data.toList.drop k).take n).length=n:=by simp;omega
     by_cases ba:cz ((s.data.toList.drop k).take n)=true
     .rw[ba] at K ⊢;have bk:=ae (K.o);clear ba hlen K;simp only[Bool.not_true,Bool.false_and,Nz,if_false,if_true] at bk;go_upto_region 28 with(fail);generalize hX:World.setCell aW _ _=X;have r:uz wr X 3 0 k:=by
       exact AG
      clear hX Z aj aq;have Q:=ae r;obtain⟨b0,a8,bw⟩:=r.blk.two;clear r;by_cases aU:acc.length=4000
      .have dc:((acc.length:Int) == 4000)=true:=by simp;omega
       have T:(acc.length == 4000)=true:=by simp;omega
       have a3:=ae (bk.trans (if_pos aU));clear aU;go_wp2
       go_ret3
       exact yt
      have dc:((acc.length:Int) == 4000)=false:=by simp;omega
      have T:(acc.length == 4000)=false:=by simp;omega
      have a3:=ae (bk.trans (if_neg aU));have P:=ae aU;clear aU;have G:e4 X b o cap s:=bY.He Q.below;have cP:=λW=>hk (b:=b) (o:=o) M bf hn W;have c3:=ks G (k:=k) (n:=n) (cap - k) hn;have ak:=ae G;clear G;go_upto_region 31 with(fail);generalize co:World.setCell X _ _=Y;have u:Below wr wr Y:=co▸Q.below.setCell (p:=⟨wr,1,none⟩) (MU _) _;have aa:an Y wr 122 #[(3:Int),.string (s.extract k (k+n)),(0:Int),k]:=co▸Q.blk.aK 1 _;obtain⟨bv,U,V⟩:=aa.two;have x:=ae u;clear co u aa b0 a8 bw cP c3;go_wp2_with((at_builtin;refine b9 Y p5 rfl (.tmp 119) (.tmp 121) rfl w _ _ _ #[(3:Int),.string (s.extract k (k+n)),(0:Int),k] rfl (bV bT.own x.o) rfl rfl (by simp[Value.oneCell']) ad ad (Nl bT.below.size x.size) ?_;intro v2 cV S ao E;obtain⟨A2,c2,rfl,O,_⟩:=bG S));have ax:Below w w cV:=dy (bT.below.trans (x.mono bT.below.size)) (bV bT.own x.o) ao (MU _) (Nl bT.below.size x.size);have aw:=ah ax S;clear ax S ao E bv U V;have g:=k8 s b o cap (k+n) cV (H.He aw.1) hn;rw[Int.natCast_add] at g;refine g.mono ?_;clear g;rintro e ab ⟨rfl,rfl⟩;obtain⟨F,ce,cK,cn,bO,cI⟩:=nu s (k+n) hn;rw[cI];have bH:=ah cn bO;clear cn bO cI;go_wp2;go_roundw
      case rel=>
       refine⟨F,acc++[⟨3,(s.data.toList.drop k).take n,0,(k:Int)⟩],rfl,bT.next (m:=k+n) ?_ P.o ad hn (bT.G0.trans a3.o) aw.1 ce cK bH.1 bH.2⟩;exact s0
      case measure=>exact aH
     have I:cz ((s.data.toList.drop k).take n)=false:=by simpa using ba
     rw[I] at K ⊢;by_cases al:16<n
     .have bk:=ae (K.trans (if_pos (by rw[hlen];simp[al])));clear ba I hlen;go_wp2
      go_ret3
      exact kO.bad bk.o (bT.below.trans (N.below.mono bT.below.size))
     have bk:=ae (K.trans (if_neg (by rw[hlen];simp[al])));simp only[Nz,if_false] at bk;clear ba I hlen K;go_upto_region 28 with(fail);have X:World:=aW;clear X;generalize aW=X at *;have r:=N.o;clear Z aj aq;have Q:=ae r;obtain⟨b0,a8,bw⟩:=r.blk.two;clear r;by_cases aU:acc.length=4000
     .have dc:((acc.length:Int) == 4000)=true:=by simp;omega
      have T:(acc.length == 4000)=true:=by simp;omega
      have a3:=ae (bk.trans (if_pos aU));clear aU;go_wp2
      go_ret3
      exact yt
     have dc:((acc.length:Int) == 4000)=false:=by simp;omega
     have T:(acc.length == 4000)=false:=by simp;omega
     have a3:=ae (bk.trans (if_neg aU));have P:=ae aU;clear aU;have G:e4 X b o cap s:=bY.He Q.below;have cP:=λW=>hk (b:=b) (o:=o) M bf hn W;have c3:=ks G (k:=k) (n:=n) (cap - k) hn;have ak:=ae G;clear G;go_upto_region 31 with(fail);generalize co:World.setCell X _ _=Y;have u:Below wr wr Y:=co▸Q.below.setCell (p:=⟨wr,1,none⟩) (MU _) _;have aa:an Y wr 122 #[(1:Int),.string (s.extract k (k+n)),(0:Int),k]:=co▸Q.blk.aK 1 _;obtain⟨bv,U,V⟩:=aa.two;have x:=ae u;clear co u aa b0 a8 bw cP c3;go_wp2_with((at_builtin;refine b9 Y p5 rfl (.tmp 119) (.tmp 121) rfl w _ _ _ #[(1:Int),.string (s.extract k (k+n)),(0:Int),k] rfl (bV bT.own x.o) rfl rfl (by simp[Value.oneCell']) ad ad (Nl bT.below.size x.size) ?_;intro v2 cV S ao E;obtain⟨A2,c2,rfl,O,_⟩:=bG S));have ax:Below w w cV:=dy (bT.below.trans (x.mono bT.below.size)) (bV bT.own x.o) ao (MU _) (Nl bT.below.size x.size);have aw:=ah ax S;clear ax S ao E bv U V;have g:=k8 s b o cap (k+n) cV (H.He aw.1) hn;rw[Int.natCast_add] at g;refine g.mono ?_;clear g;rintro e ab ⟨rfl,rfl⟩;obtain⟨F,ce,cK,cn,bO,cI⟩:=nu s (k+n) hn;rw[cI];have bH:=ah cn bO;clear cn bO cI;go_wp2;go_roundw
     case rel=>
      refine⟨F,acc++[⟨1,(s.data.toList.drop k).take n,0,(k:Int)⟩],rfl,bT.next (m:=k+n) ?_ P.o ad hn (bT.G0.trans a3.o) aw.1 ce cK bH.1 bH.2⟩;exact s0
     case measure=>exact aH
  have aB:bX s[k]=false:=by simpa using hl
  rw[aB];have av:=ae aB;clear hl aB;go_wp2_with(fail);refine(lq s[k] _).mono ?_;rintro e ab ⟨rfl,rfl⟩;by_cases hd:bC s[k]=true
  .rw[hd];have au:=ae hd;clear hd ci;go_wp2_with(fail)
   go_loop [8] (λe=>∃n:Nat,k+n<=s.size/\e=.int .i64 ((k:Int)+(n:Int))/\((s.data.toList.drop k).take n).all bC=true) (λe=>s.size+1 - (intOf e).toNat)
   case atStart=>exact⟨0,ad,by simp,by simp⟩
   case round=>
    obtain⟨n,hn,rfl,y⟩:=hrel;have HA:=ae y;clear y;have t1:((k:Int)+(n:Int)).toNat=k+n:=ad;have bh:(0:Int)<=(k:Int)+(n:Int):=ad;by_cases cE:k+n<s.size
    case' pos=>
     have cr:=ar.o (k+n) cE #[(0:Int),NF,(0:Int),k] 122;have cj:(k:Int)+(n:Int)<(s.size:Int):=ad;go_wp2_with(fail);refine(lq s[k+n] _).mono ?_;rintro e ab ⟨rfl,rfl⟩;by_cases bc:bC s[k+n]=true
     .rw[bc];have ca:=ae (p1 (p:=bC) cE HA.o bc);clear bc;go_wp2
      go_round
      case rel=>exact⟨n+1,ad,by simp;omega,ca.o⟩
      case measure=>exact aH
     have D:bC s[k+n]=false:=by simpa using bc
     rw[D];have af:=ae (show 0<n from by
      rcases Nat.eq_zero_or_pos n with h0|h0
      .subst h0;simp only[Nd] at D;rw[au.o] at D;cases D
      .exact h0)
     have J:=ae (show ∀h:k+n<s.size,bC (s[k+n]'h)=false from λ_=>D);clear bc D cr
    case' neg=>
     have cj:decide ((k:Int)+(n:Int)<(s.size:Int))=false:=by simp;omega
     have af:=ae (show 0<n by omega);have J:=ae (show ∀h:k+n<s.size,bC (s[k+n]'h)=false from λh=>absurd h cE)
    all_goals
     have bf:0<n:=af.o;have K:=ae (bT.G0.symm.trans (Fk (f:=s.size - k) (acc:=acc) ap bT.skip av.o au.o HA.o J.o));have s2:=λW=>hk (b:=b) (o:=o) M bf hn W;go_wp2_with(fail);refine(xu s b o cap k n (cap - k) _ (bY.on (NC.alloc _)) hn HA.o).mono ?_;rintro e ab ⟨rfl,rfl⟩;clear s2;generalize nZ ((s.data.toList.drop k).take n)=v at *;by_cases bK:v<0
     .have bk:=ae (K.trans (if_pos bK));have aG:decide (v<0)=true:=by simpa using bK
      clear K;go_wp2
      go_ret3
      exact kO.bad bk.o (bT.below.trans (((Below.refl _ _).alloc (MU _) _).mono bT.below.size))
     have bk:=ae (K.trans (if_neg bK));have aG:decide (v<0)=false:=by simpa using bK
     clear K bK;go_upto_region 28 with(fail);generalize hX:World.alloc wr _=X;have r:uz wr X 2 v k:=by
      rw[<-hX];exact⟨(Below.refl _ _).alloc (MU _) _,ND,by simp⟩
     clear hX;have Q:=ae r;obtain⟨b0,a8,bw⟩:=r.blk.two;clear r;by_cases aU:acc.length=4000
     .have dc:((acc.length:Int) == 4000)=true:=by simp;omega
      have T:(acc.length == 4000)=true:=by simp;omega
      have a3:=ae (bk.trans (if_pos aU));clear aU;go_wp2
      go_ret3
      exact yt
     have dc:((acc.length:Int) == 4000)=false:=by simp;omega
     have T:(acc.length == 4000)=false:=by simp;omega
     have a3:=ae (bk.trans (if_neg aU));have P:=ae aU;clear aU;have G:e4 X b o cap s:=bY.He Q.below;have cP:=λW=>hk (b:=b) (o:=o) M bf hn W;have c3:=ks G (k:=k) (n:=n) (cap - k) hn;have ak:=ae G;clear G;go_upto_region 31 with(fail);generalize co:World.setCell X _ _=Y;have u:Below wr wr Y:=co▸Q.below.setCell (p:=⟨wr,1,none⟩) (MU _) _;have aa:an Y wr 122 #[(2:Int),.string (s.extract k (k+n)),v,k]:=co▸Q.blk.aK 1 _;obtain⟨bv,U,V⟩:=aa.two;have x:=ae u;clear co u aa b0 a8 bw cP c3;go_wp2_with((at_builtin;refine b9 Y p5 rfl (.tmp 119) (.tmp 121) rfl w _ _ _ #[(2:Int),.string (s.extract k (k+n)),v,k] rfl (bV bT.own x.o) rfl rfl (by simp[Value.oneCell']) ad ad (Nl bT.below.size x.size) ?_;intro v2 cV S ao E;obtain⟨A2,c2,rfl,O,_⟩:=bG S));have ax:Below w w cV:=dy (bT.below.trans (x.mono bT.below.size)) (bV bT.own x.o) ao (MU _) (Nl bT.below.size x.size);have aw:=ah ax S;clear ax S ao E bv U V;have g:=k8 s b o cap (k+n) cV (H.He aw.1) hn;rw[Int.natCast_add] at g;refine g.mono ?_;clear g;rintro e ab ⟨rfl,rfl⟩;obtain⟨F,ce,cK,cn,bO,cI⟩:=nu s (k+n) hn;rw[cI];have bH:=ah cn bO;clear cn bO cI;go_wp2;go_roundw
     case rel=>
      refine⟨F,acc++[⟨2,(s.data.toList.drop k).take n,v,(k:Int)⟩],rfl,bT.next (m:=k+n) ?_ P.o ad hn (bT.G0.trans a3.o) aw.1 ce cK bH.1 bH.2⟩;exact s0
     case measure=>exact aH
  have C:bC s[k]=false:=by simpa using hd
  rw[C];have aD:=ae C;clear hd C ci;go_wp2_with(fail);refine(FU s b o cap k _ (bY.on (NC.alloc _)) ap).mono ?_;rintro e aW ⟨rfl,bn⟩;have d:uz wr aW 0 0 k:=by
   have e1:Ext wr aW:=(NC.alloc _).trans bn;have am:=(an.new wr 122 #[(0:Int),NF,(0:Int),k]).aj bn;exact⟨Fr.ext e1,am,am.lt⟩
  clear bn;have N:=ae d;obtain⟨Z,aj,aq⟩:=d.blk.two;clear d;have K:=ae (bT.G0.symm.trans (zP (f:=s.size - k) (acc:=acc) ap bT.skip av.o aD.o));have cD:=FT (s.data.toList.drop k) (by rw[df ap];simp);rw[mU] at cD;generalize fm (s.data.toList.drop k)=n at *;have hn:k+n<=s.size:=ad;by_cases aI:n=0
  .have bI:(((k:Int)+(n:Int)) == (k:Int))=true:=by simp;omega
   have bk:=ae (K.trans (if_pos aI));have b8:(n:Int)=0:=ad;subst aI;clear K bI b8;go_wp2
   go_ret3
   exact kO.bad bk.o (bT.below.trans ((N.below.setCell (p:=⟨wr,0,none⟩) (MU _) _).mono bT.below.size))
  have bI:(((k:Int)+(n:Int)) == (k:Int))=false:=by simp;omega
  have bk:=ae (K.trans (if_neg aI));have bf:0<n:=ad;clear K aI;go_upto_region 28 with(fail);generalize hX:World.setCell aW _ _=X;have r:uz wr X 4 0 k:=by
   exact AG
  clear hX Z aj aq;have Q:=ae r;obtain⟨b0,a8,bw⟩:=r.blk.two;clear r;by_cases aU:acc.length=4000
  .have dc:((acc.length:Int) == 4000)=true:=by simp;omega
   have T:(acc.length == 4000)=true:=by simp;omega
   have a3:=ae (bk.trans (if_pos aU));clear aU;go_wp2
   go_ret3
   exact yt
  have dc:((acc.length:Int) == 4000)=false:=by simp;omega
  have T:(acc.length == 4000)=false:=by simp;omega
  have a3:=ae (bk.trans (if_neg aU));have P:=ae aU;clear aU;have G:e4 X b o cap s:=bY.He Q.below;have cP:=λW=>hk (b:=b) (o:=o) M bf hn W;have c3:=ks G (k:=k) (n:=n) (cap - k) hn;have ak:=ae G;clear G;go_upto_region 31 with(fail);generalize co:World.setCell X _ _=Y;have u:Below wr wr Y:=co▸Q.below.setCell (p:=⟨wr,1,none⟩) (MU _) _;have aa:an Y wr 122 #[(4:Int),.string (s.extract k (k+n)),(0:Int),k]:=co▸Q.blk.aK 1 _;obtain⟨bv,U,V⟩:=aa.two;have x:=ae u;clear co u aa b0 a8 bw cP c3;go_wp2_with((at_builtin;refine b9 Y p5 rfl (.tmp 119) (.tmp 121) rfl w _ _ _ #[(4:Int),.string (s.extract k (k+n)),(0:Int),k] rfl (bV bT.own x.o) rfl rfl (by simp[Value.oneCell']) ad ad (Nl bT.below.size x.size) ?_;intro v2 cV S ao E;obtain⟨A2,c2,rfl,O,_⟩:=bG S));have ax:Below w w cV:=dy (bT.below.trans (x.mono bT.below.size)) (bV bT.own x.o) ao (MU _) (Nl bT.below.size x.size);have aw:=ah ax S;clear ax S ao E bv U V;have g:=k8 s b o cap (k+n) cV (H.He aw.1) hn;rw[Int.natCast_add] at g;refine g.mono ?_;clear g;rintro e ab ⟨rfl,rfl⟩;obtain⟨F,ce,cK,cn,bO,cI⟩:=nu s (k+n) hn;rw[cI];have bH:=ah cn bO;clear cn bO cI;go_wp2;go_roundw
  case rel=>
   refine⟨F,acc++[⟨4,(s.data.toList.drop k).take n,0,(k:Int)⟩],rfl,bT.next (m:=k+n) ?_ P.o ad hn (bT.G0.trans a3.o) aw.1 ce cK bH.1 bH.2⟩;exact s0
  case measure=>exact aH
end Go.Proofs.YtnigabjngpnbiabGreat
