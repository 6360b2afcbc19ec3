/- Part 11 of the proof. No condition of its own. -/
import Derived.Test.YtbkhhfajcgkpgaaGreatQ07
import Derived.Test.YtbkhhfajcgkpgaaGreatQ10
namespace Go.Proofs.YtbkhhfajcgkpgaaGreat
open Go.RowKit Go.Proofs.Tryz
set_option maxRecDepth 1000000
set_option maxHeartbeats 25600000
set_option linter.unusedVariables false
variable{op:Int}{l:List UInt8}{cs:List Value}{B N base g k m n:Nat}{M P:Nat→Prop}{p:Prop}{e t:TypeId}{x y:VE}{ac w:World}{r:eF}
def byteOf(v:Int):UInt8:=UInt8.ofNat v.toNat
theorem kI(W:World)(v:Int):(convert 85 9 (.slice (some ⟨W.heap.size,0,none⟩) 1 1)).run prog (W.alloc (.cells #[.int .u8 v] 5))=.ok (.string (strOf [byteOf v])) (W.alloc (.cells #[.int .u8 v] 5)):=by
 have:=run_convert_bytes_arg (P:=prog) (W.alloc (.cells #[.int .u8 v] 5)) 85 5 Tryz.underlying85 Tryz.underlying5 W.heap.size 0 1 1 [v] rfl (fun i al=>by
  have:i=0:=ab;subst this;rw[(af.new W 5 #[.int .u8 v]).cell];rfl) 9 Tryz.underlying9
 rw[this];rfl
theorem aG(l:List UInt8):(strOf l).size=l.length:=by simp[strOf,ByteArray.size]
theorem oZ(m:Nat):byteOf (48+((m:Int) % 10))=UInt8.ofNat (48+m % 10):=by
 unfold byteOf;congr 1
theorem ret_str{a b:ByteArray}(h:a=b):Ending.returned (.string a)=.returned (.string b):=by rw[h]
theorem ag(a b:List UInt8):strOf a++strOf b=strOf (a++b):=by
 unfold strOf;rw[ByteArray.ext_iff];simp
def iT(N m:Nat)(l:List UInt8):Prop:=jg N=(if m=0 then [] else jg m)++l
theorem qW(N:Nat):iT N (N / 10) [UInt8.ofNat (48+N % 10)]:=by
 unfold iT;rw[jg];split
 ·rename_i h;rw[if_pos ab,show N % 10=N by omega];rfl
 ·rw[if_neg ab]
theorem Cu(h:iT N m l)(hm:0<m):iT N (m / 10) (UInt8.ofNat (48+m % 10)::l):=by
 unfold iT at *;rw[if_neg ab] at h;rw[h];have:=qW m;unfold iT at this;rw[this];simp
theorem D9(h:iT N m l)(hN:N≤9223372036854775808):l.length≤20:=by
 have:=jh 19 N ab;unfold iT at h;rw[h,JS] at this;omega
theorem pa(N:Nat)(w:World)(hN:N≤9223372036854775808) :
  Calls prog 146 #[.int .u64 N] w fun e ac=>e=.returned (.string (strOf (jg N)))∧Below w.heap.size w ac:=by
 have kc:=kI w;go_enter func146,ntmps146;go_wp2;go_loopw [0,3] (fun a sv wr=>∃(m:Nat) (l:List UInt8),a=.int .u64 m∧sv=.string (strOf l)∧m≤N∧iT N m l∧Below w.heap.size w wr) (fun a _ _=>(intOf a).toNat)
 case atStart=>exact⟨N / 10,[byteOf (48+(N:Int) % 10)],by simp,rfl,ab,by rw[oZ];exact qW N,(Below.refl _ _).alloc (JQ _) _⟩
 case round=>
  obtain⟨m,l,rfl,rfl,hm,aU,O⟩:=hrel;obtain⟨aX,bs⟩:=aM aU O;have hl:=D9 aU hN;clear aU O kc;have kc:=kI wr;by_cases h0:0<m
  ·have q:decide ((m:Int) > 0)=true:=by simp;omega
   have aq:decide (m > 0)=true:=by simp;omega
   have bi:(strOf l).size≤20:=by rw[aG];omega
   have M:(strOf [byteOf (48+(m:Int) % 10)]).size≤1:=by rw[aG];simp
   go_wp2;go_roundw
   case rel=>exact⟨m / 10,byteOf (48+(m:Int) % 10)::l,by simp,by rw[ag];rfl,ab,by rw[oZ];exact Cu aX.o h0,bs.alloc bs.size _⟩
   case measure=>exact aB
  ·have ci:m=0:=ab;have a2:=ad (show jg N=l by have:=aX.o;unfold iT at this;rw[if_pos ci] at this;simpa using this);have q:decide ((m:Int) > 0)=false:=by simp;omega
   clear ci;go_wp2;go_ret;exact⟨ret_str (by rw[a2.o]),bs.o⟩
def lp(n:Int):List UInt8:=aR (hf n)
theorem yw{n:Int}(h:n<0):lp n=45::jg n.natAbs:=by unfold lp hf;rw[if_pos h];simp[aR,Atom.bytes]
theorem uC{n:Int}(h:0≤n):lp n=jg n.toNat:=by unfold lp hf;rw[if_neg ab];simp[aR,Atom.bytes]
theorem lO(n:Int)(w:World)(h:-9223372036854775808≤n∧n≤9223372036854775807) :
  Calls prog 131 #[.int .i64 n] w fun e ac=>e=.returned (.string (strOf (lp n)))∧Below w.heap.size w ac:=by
 by_cases hn:n<0
 ·obtain⟨m,rfl⟩:∃m:Nat,n = -((m:Int)+1):=⟨(-(n+1)).toNat,ab⟩
  have hm:m≤9223372036854775807:=ab;have L:=ad (yw hn);clear hn h;go_enter func131,ntmps131;go_wp2_with(fail);rw[show (-(-((m:Int)+1)+1)+1)=((m+1:Nat):Int) by omega];refine(pa (m+1) w ab).mono ?_;rintro e ac ⟨rfl,O⟩;have bs:=ad O;clear O;have bi:(strOf (jg (m+1))).size≤20:=by rw[aG];exact jh 19 _ ab
  go_wp2;go_ret;exact⟨ret_str (by rw[L.o,show (-((m:Int)+1)).natAbs=m+1 by omega];exact ag [45] _),bs.o⟩
 ·obtain⟨m,rfl⟩:=JV (show 0≤n by omega);have L:=ad (uC (n:=(m:Int)) ab);clear hn;go_enter func131,ntmps131;go_wp2_with(fail);refine(pa m w ab).mono ?_;rintro e ac ⟨rfl,O⟩;have bs:=ad O;clear O;go_wp2;go_ret;exact⟨ret_str (by rw[L.o,Kb]),bs.o⟩
def mF:Nat→List (List UInt8×Int)
 | 0=>[([124,124],17)]
 | 1=>[([38,38],16)]
 | 2=>[([61,61],14),([33,61],15),([60],10),([60,61],11),([62],12),([62,61],13)]
 | 3=>[([43],8),([45],9)]
 | _=>[([42],5),([47],6),([37],7)]
def GR(k:Nat):List ByteArray:=(mF k).map fun p=>strOf p.1
def ni(k:Nat):List Int:=(mF k).map (·.2)
theorem Dq{cs:Array Value}{l:List Int}(h:af w g t cs)(hc:cs=(l.map (Value.int .i64)).toArray)(hl:l.length=n)(aL:g<B):cC (EF b2) 1 w B (some ⟨g,0,none⟩) n l:=by
 subst hc;refine⟨hl,fun _=>⟨g,0,rfl,aL,fun k x hx=>⟨b2 x,rfl,rfl,fun j v bc=>?_⟩⟩⟩;have ci:j=0∧v=.int .i64 x:=by
  cases j with
  | zero=>simp[b2] at bc;exact⟨rfl,bc.symm⟩
  | succ j=>simp[b2] at bc
 obtain⟨rfl,rfl⟩:=ci;rw[h.cell];simp[hx]
theorem Dr{cs:Array Value}{l:Ks}(h:af w g t cs)(hc:cs=(l.map Value.string).toArray)(hl:l.length=n)(aL:g<B):cC (EF nX) 1 w B (some ⟨g,0,none⟩) n l:=by
 subst hc;refine⟨hl,fun _=>⟨g,0,rfl,aL,fun k x hx=>⟨nX x,rfl,rfl,fun j v bc=>?_⟩⟩⟩;have ci:j=0∧v=.string x:=by
  exact yW
 obtain⟨rfl,rfl⟩:=ci;rw[h.cell];simp[hx]
def yJ(w:World)(k:Nat)(e:Ending)(ac:World):Prop:=
 ∃A B n,n≤6∧e=.returned (.tuple #[.slice A n n,.slice B n n])∧cC (EF nX) 1 ac ac.heap.size A n (GR k)∧cC (EF b2) 1 ac ac.heap.size B n (ni k)∧Ext w ac
theorem rC(k:Nat)(aj:k≤4)(w:World):Calls prog 143 #[.int .i64 k] w (yJ w k):=by
 obtain rfl|rfl|rfl|rfl|rfl:k=0∨k=1∨k=2∨k=3∨k=4:=ab
 all_goals
  clear aj;go_enter func143,ntmps143;go_wp2
  go_ret2
  generalize bg:World.alloc (World.alloc w _) _=W;refine⟨some ⟨w.heap.size,0,none⟩,some ⟨w.heap.size+1,0,none⟩,_,by decide,rfl,Dr (t:=9) (cs:=((GR _).map Value.string).toArray) ?_ rfl rfl ?_,Dq (t:=3) (cs:=((ni _).map (Value.int .i64)).toArray) ?_ rfl rfl ?_,?_⟩
  ·rw[←bg];exact(Ko).alloc _
  ·rw[←bg];simp;omega
  ·rw[←bg];exact af.ct _ _ _ (by simp)
  ·rw[←bg];simp
  ·rw[←bg];exact(Kn.alloc _).alloc _
theorem DY(aj:k≤4)(h:op∈ni k):cK op=k:=by
 obtain rfl|rfl|rfl|rfl|rfl:k=0∨k=1∨k=2∨k=3∨k=4:=ab
 all_goals
  simp[ni,mF] at h;unfold cK
  repeat' split
  all_goals omega
theorem Cl(h:∀k:Nat,k<5→op∉ni k):cK op=if op=3∨op=4 then 5 else 6:=by
 have h0:=h 0 ab;have ae:=h 1 ab;have aC:=h 2 ab;have aT:=h 3 ab;have a9:=h 4 ab;simp[ni,mF] at h0 ae aC aT a9;unfold cK;rw[if_neg ab,if_neg ab,if_neg ab,if_neg ab,if_neg ab]
theorem fY(op:Int)(w:World):Calls prog 155 #[.int .i64 op] w fun e ac=>e=.returned (.int .i64 (cK op))∧Ext w ac:=by
 go_enter func155,ntmps155;go_wp2;go_loopw [3] (fun ba wr=>∃k:Nat,k≤5∧ba=.int .i64 k∧(∀i:Nat,i<k→op∉ni i)∧Ext w wr) (fun ba _=>6 - (intOf ba).toNat)
 case atStart=>exact⟨0,ab,rfl,fun i h=>ab,Kn⟩
 case round=>
  obtain⟨k,aj,rfl,ca,O⟩:=hrel;obtain⟨bs,bW⟩:=aM O ca;clear O ca;by_cases aw:k<5
  ·have q:decide ((k:Int)<5)=true:=by simp;omega
   go_wp2_with(fail);refine(rC k ab _).mono ?_;rintro e aO ⟨A,B,n,hn,rfl,hs,a8,he⟩;have bj:=ai a8 he;clear hs a8 he;go_wp2_with(fail)
   go_loop [6] (fun cg=>∃j:Nat,j≤n∧cg=.int .i64 j∧∀(i:Nat) (x:Int),i<j→(ni k)[i]?=some x→x≠op) (fun cg=>n - (intOf cg).toNat)
   case atStart=>exact⟨0,ab,rfl,fun i x h=>ab⟩
   case round=>
    obtain⟨j,bc,rfl,a1⟩:=hrel;have a2:=ad a1;clear a1;by_cases Y:j<n
    ·obtain⟨b,o,x,rfl,an,hx,hc⟩:=bj.1.int Y;have aP:=ad hx;clear hx;by_cases qw:x=op
     ·have q1:(x == op)=true:=by simpa using qw
      have aX:=ad (DY (op:=op) (k:=k) ab (by rw[←qw];exact JT aP.o));clear qw;go_wp2;go_ret;exact⟨ret_int aX.symm,bs.trans bj.2⟩
     ·have q1:(x == op)=false:=by simpa using qw
      have P:=ad qw;clear qw;go_wp2
      go_round
      case rel=>exact⟨j+1,ab,by go_num,fun i y al a4=>by
       by_cases v:i=j
       ·subst v;rw[aP.o] at a4;injection a4 with a4;subst a4;exact P.o
       ·exact a2.o i y ab a4⟩
      case measure=>exact aB
    ·have c:j=n:=ab;have cm:=ad (show op∉ni k from fun hm=>by
      obtain⟨i,al⟩:=List.getElem?_of_mem hm;have aw:=(List.getElem?_eq_some_iff.1 al).1;have hl:=bj.1.1;exact a2.o i op ab al rfl)
     have cB:decide ((j:Int)<(n:Int))=false:=by simp;omega
     clear c;go_wp2;go_roundw
     case rel=>exact⟨k+1,ab,by go_num,fun i al=>by
      by_cases bQ:i=k
      ·subst bQ;exact cm.o
      ·exact bW.o i ab,bs.trans bj.2⟩
     case measure=>exact aB
  ·have aI:k=5:=ab;have aX:=ad (Cl (op:=op) (fun i al=>bW.o i ab));subst aI;by_cases aT:op=3∨op=4
   ·have aa:=ad (aX.trans (if_pos aT));rcases aT with rfl|rfl
    all_goals
     go_wp2;go_ret;exact⟨ret_int aa.symm,bs.o⟩
   ·have aa:=ad (aX.trans (if_neg aT));have cv:(op == 3)=false:=by simp;omega
    have cF:(op == 4)=false:=by simp;omega
    clear aT;go_wp2;go_ret;exact⟨ret_int aa.symm,bs.o⟩
theorem Et(x:VE):x.aU=aU x:=by cases x<;>rfl
theorem rf(op n M:Int)(nm:ByteArray)(b o m c:Nat)(k:Nat)(w:World)(aj:k≤1)(H:k<m)(O:b<w.heap.size)(hc:w.cell? ⟨b,o+k*4,none⟩=some (.int .i64 M)) :
  Calls prog 156 #[.agg #[.int .i64 op,.int .i64 n,.string nm,.slice (some ⟨b,o,none⟩) m c],.int .i64 k] w fun e ac=>e=.returned (.bool (dn op M (k == 1)))∧Ext w ac:=by
 have cz:(0:Int)≤(k:Int):=ab;have b5:(k:Int)<(m:Int):=ab;go_enter func156,ntmps156;go_wp2;generalize bg:World.alloc _ _=W;have aF:Ext w W:=bg▸Kn.alloc _;obtain⟨a0,ap,ak⟩:=(show af W w.heap.size 57 #[.int .i64 op,.int .i64 n,.string nm,.slice (some ⟨b,o,none⟩) m c] by rw[←bg];exact Ko).two;have G:=(aF.cell (j:=o+k*4) O (fun h=>h)).trans hc;have f:b<W.heap.size:=JR O aF.size;have a2:=ad aF;clear bg aF hc;refine eE (fun _=>False) [(0,3),(1,0),(2,3),(3,3),(4,3),(5,0),(7,3),(8,0),(6,1),(9,2),(10,3),(11,3)] ?_;refine pf ?_;refine ph ?_
 iterate 3 refine pf ?_
 refine ph ?_;refine pf ?_;refine ph ?_;refine aK rfl (fun K hK=>?_);go_simp;refine(fY M _).mono ?_;rintro e aN ⟨rfl,ar⟩;refine dW hK (ar) ?_;clear hK K;have br:=ad (a2.trans (Fr.aO ar));clear ar;refine aq rfl (fun K hK=>?_);go_simp;refine(fY op _).mono ?_;rintro e aO ⟨rfl,bI⟩;refine eD hK ?_;clear hK K;have J:=ad (br.trans bI);clear bI a0 ap ak G
 iterate 2 refine pf ?_
 refine aA ?_;have bs:=ad (show dn op M (k == 1)=(decide (cK M<cK op) || (cK M == cK op && k == 1)) from rfl);generalize cK M=x at *;generalize cK op=y at *;by_cases ae:x<y
 ·have aX:=ad (show dn op M (k == 1)=true by rw[bs.o];simp[ae]);clear bs;exact rN
 have q1:decide (x<y)=false:=by simpa using ae
 by_cases aC:x=y
 ·have cB:(x == y)=true:=by simpa using aC
  by_cases aT:k=1
  ·have aX:=ad (show dn op M (k == 1)=true by rw[bs.o];simp[aC,aT]);have cv:((k:Int) == 1)=true:=by simp;omega
   have a:(k == 1)=true:=by simp;omega
   clear bs ae aC aT;exact rN
  ·have aX:=ad (show dn op M (k == 1)=false by rw[bs.o];simp[aC,aT]);have cv:((k:Int) == 1)=false:=by simp;omega
   have a:(k == 1)=false:=by simp;omega
   clear bs ae aC aT;exact rN
 ·have cB:(x == y)=false:=by simpa using aC
  have aX:=ad (show dn op M (k == 1)=false by rw[bs.o];simp[ae,aC]);clear bs ae aC;exact rN
theorem kd:bX prog 172 9 (.string ⟨#[]⟩) 1 16:=bX.mk' Tryz.underlying172 (by kernel_rfl) rfl ab
def bL(x:VE):List UInt8:=aR (b1 x)
def gf(op:Int)(k:Nat)(y:VE):List UInt8:=aR (par (dn op (aU y) (k == 1)) (b1 y))
def gi:VE→List (List UInt8)
 | .un op x=>[gf op 0 x]
 | .bin op x y=>[gf op 0 x,gf op 1 y]
 | _=>[]
theorem wY(op:Int)(k:Nat)(y:VE):gf op k y=if dn op (aU y) (k == 1) then 40::(bL y++[41]) else bL y:=by
 unfold gf par bL;split
 ·rw[aX,aY];rfl
 ·rfl
theorem wZ(op:Int)(k:Nat)(y:VE):(bL y).length≤(gf op k y).length:=by
 rw[wY];split<;>simp
 omega
theorem xu(op:Int)(x:VE):bL (.un op x)=(if op=3 then 45 else 33)::gf op 0 x:=by
 unfold bL b1 gf;rw[aX];split<;>rfl
theorem uo(op:Int)(x y:VE):bL (.bin op x y)=gf op 0 x++32::(gF op++32::gf op 1 y):=by
 unfold bL b1 gf;rw[aY,aX,aX,aX];rfl
theorem ke(x:VE){t:List UInt8}(h:(gi x)[k]?=some t):t.length≤(bL x).length:=by
 cases x with
 | un op x=>
  rw[xu]
  match k,h with
  | 0,h=>simp[gi] at h;subst h;simp
 | bin op x y=>
  rw[uo]
  match k,h with
  | 0,h=>simp[gi] at h;subst h;simp
  | 1,h=>simp[gi] at h;subst h;simp;omega
 | num n=>simp[gi] at h
 | gy n=>simp[gi] at h
 | loc n=>simp[gi] at h
 | ia n=>simp[gi] at h
theorem l3(x:VE)(h:x.args[k]?=some y):(gi x)[k]?=some (gf x.aU k y)∧k≤1:=by
 cases x with
 | un op x=>
  match k,h with
  | 0,h=>simp[VE.args] at h;subst h;simp[gi,VE.aU]
 | bin op x y=>
  match k,h with
  | 0,h=>simp[VE.args] at h;subst h;simp[gi,VE.aU]
  | 1,h=>simp[VE.args] at h;subst h;simp[gi,VE.aU]
 | num n=>simp[VE.args] at h
 | gy n=>simp[VE.args] at h
 | loc n=>simp[VE.args] at h
 | ia n=>simp[VE.args] at h
theorem xC(x:VE):(gi x).length=x.args.length:=by cases x<;>rfl
theorem tb(x:VE):x.args.length≤2:=by cases x<;>simp[VE.args]
theorem qg{N:Ks}{d:Nat}(h:x.src N (d+1))(a4:x.args[k]?=some y):y.src N d:=by
 cases x with
 | un op x=>
  match k,a4 with
  | 0,a4=>simp[VE.args] at a4;subst a4;exact h.2
 | bin op x y=>
  match k,a4 with
  | 0,a4=>simp[VE.args] at a4;subst a4;exact h.2.1
  | 1,a4=>simp[VE.args] at a4;subst a4;exact h.2.2
 | num n=>simp[VE.args] at a4
 | gy n=>simp[VE.args] at a4
 | loc n=>simp[VE.args] at a4
 | ia n=>simp[VE.args] at a4
theorem qh{N:Ks}(h:x.src N 0):x.args=[]:=by
 cases x with
 | un op x=>exact h.elim
 | bin op x y=>exact h.elim
 | num n=>rfl
 | gy n=>rfl
 | loc n=>rfl
 | ia n=>rfl
theorem ER{i:Nat}(h:5≤op∧op≤17)(al:(ni (cK op).toNat)[i]?=some op):(GR (cK op).toNat)[i]?=some (strOf (gF op)):=by
 obtain⟨ae,aC⟩:=h;obtain rfl|rfl|rfl|rfl|rfl|rfl|rfl|rfl|rfl|rfl|rfl|rfl|rfl:op=5∨op=6∨op=7∨op=8∨op=9∨op=10∨op=11∨op=12∨op=13∨op=14∨op=15∨op=16∨op=17:=ab
 all_goals
  match i,al with
  | 0,al=>first|rfl|(exact absurd al (by decide))
  | 1,al=>first|rfl|(exact absurd al (by decide))
  | 2,al=>first|rfl|(exact absurd al (by decide))
  | 3,al=>first|rfl|(exact absurd al (by decide))
  | 4,al=>first|rfl|(exact absurd al (by decide))
  | 5,al=>first|rfl|(exact absurd al (by decide))
  | i+6,al=>simp[ni,mF,cK] at al
theorem ue(h:5≤op∧op≤17):∃k:Nat,k≤4∧cK op=k∧op∈ni k:=by
 obtain⟨ae,aC⟩:=h;obtain rfl|rfl|rfl|rfl|rfl|rfl|rfl|rfl|rfl|rfl|rfl|rfl|rfl:op=5∨op=6∨op=7∨op=8∨op=9∨op=10∨op=11∨op=12∨op=13∨op=14∨op=15∨op=16∨op=17:=ab
 all_goals first|exact⟨0,ab,rfl,by decide⟩|exact⟨1,ab,rfl,by decide⟩|exact⟨2,ab,rfl,by decide⟩|exact⟨3,ab,rfl,by decide⟩|exact⟨4,ab,rfl,by decide⟩
def yL(x:VE):Prop:=∀(op n:Int) (s:ByteArray) (A:Kr) (m c:Nat) (w:World),(bb x).rep w (au w) [.int .i64 op,.int .i64 n,.string s,.slice A m c]→(bL x).length≤262144→
 Calls prog 147 #[.agg #[.int .i64 op,.int .i64 n,.string s,.slice A m c]] w fun e ac=>e=.returned (.string (strOf (bL x)))∧Ext w ac
theorem wa{l:List (List UInt8)}{t:List UInt8}(h:l[k]?=some t):(l.take (k+1)).map (fun t=>Value.string (strOf t))=(l.take k).map (fun t=>Value.string (strOf t))++[Value.string (strOf t)]:=by
 rw[List.take_add_one,h,JX];rfl
theorem CE(l:Ks):l.flatMap nX=l.map Value.string:=by
 induction l with
 | nil=>rfl
 | cons a l ao=>rw[Ka,ao];rfl
theorem yj{A:Kr}{c:Nat}{l:List (List UInt8)}(h:w.ownsRow base e 1 (.slice A n c) n (l.map fun t=>Value.string (strOf t)))(hl:l.length=n):cC (EF nX) 1 w w.heap.size A n (l.map strOf):=
 gS (f:=nX) (l:=l.map strOf) (by rw[CE,List.map_map];exact h) (fun _ _=>rfl) (by rw[JU];exact hl)
structure oM(w wr:World)(x:VE)(A:Kr)(m c:Nat):Prop where
 ext:Ext w wr
 blk:af wr w.heap.size 57 #[.int .i64 x.aU,.int .i64 x.numOf,.string x.a1,.slice A m c]
 args:Sl wr (au w) A m (x.args.map bb)
theorem oM.on{w wr ac:World}{x:VE}{A:Kr}{m c:Nat}(h:oM w wr x A m c)(O:Fr (fun b=>w.heap.size<b) wr ac):oM w ac x A m c:=
 ⟨⟨O.os.trans h.ext.os,O.tape.trans h.ext.tape,O.output.trans h.ext.output,J7 h.ext.size O.size,fun k aj hn=>(O.block k (JR aj h.ext.size) ab).trans (h.ext.block k aj hn)⟩,
  h.blk.on O ab,h.args.aj fun b aw=>O.block b (JR aw h.ext.size) (by have:b<w.heap.size:=aw;omega)⟩
theorem Gs{sz:Nat}{v:Value}{xs:List Value}(S:w.ownsRow base e sz v n xs)(aJ:w.grownBy ac v.ownBlock)(O:∀g,base≤g→M g):Fr M w ac:=
 (Fr.refl M w).grown aJ fun k aj=>.inl (O k (S.lt k aj).1)
theorem Ext.fr(h:Ext w ac):Fr M w ac:=h.mono fun _ h=>h.elim
namespace AH
theorem oO(h:p:=by
 have bN:m≤2:=by rw[←hs.1,JU];exact tb x
 have ay:(gi x).length=m:=by rw[xC,←hs.1,JU]
 obtain⟨b8,bu,b9,aP,F⟩:=B7 ay hs ao hx hlen;clear aU hs ao hx hlen ay;go_enter func147,ntmps147;go_wp2;generalize bg:World.alloc _ _=W;have hT:oM w W x A m c:=by
  have aF:Ext w W:=bg▸Kn.alloc _;exact⟨aF,by rw[←bg];exact Ko,bu.aj fun b aw=>aF.block b aw (fun h=>h)⟩
 have L:=ad hT;clear bg hT;go_loopw [3,4] (fun sv ba wr=>∃k:Nat,k≤m∧ba=.int .i64 k∧oM w wr x A m c∧wr.ownsRow (w.heap.size+1) 9 1 sv k (((gi x).take k).map fun t=>Value.string (strOf t))) (fun _ ba _=>m - (intOf ba).toNat)
 case atStart=>exact⟨0,ab,rfl,L.o,by simp,.inl ⟨rfl,rfl⟩⟩
 case round=>
  obtain⟨k,aj,rfl,hT,S⟩:=hrel;clear L;obtain⟨bp,a7,rfl,dR,_,_,_⟩:=bs S;obtain⟨L,bj⟩:=aM hT S;obtain⟨a0,ap,ak⟩:=hT.blk.two;clear hT S;by_cases aw:k<m
  ·obtain⟨b,o,y,cs,rfl,O,a4,bJ,a3,Z⟩:=L.args.gN cZ aw
   match cs,a3 with
   | [cj,cr,bm,aa],_=>
   have c0:=Z 0 cj rfl;have c1:=Z 1 cr rfl;have c2:=Z 2 bm rfl;have c3:=Z 3 aa rfl;simp only[J0] at c0;have aW:b<wr.heap.size:=JR O L.ext.size;clear Z O;obtain⟨B,bZ,eL,e,cu,bO⟩:=aV.1 bJ;simp only[List.cons.injEq,and_true] at e;obtain⟨rfl,rfl,rfl,rfl⟩:=e;have bM:=ad a4;have ac:=ad (D.aF (bb:=au wr) (fun b aw=>JR aw L.ext.size) _ _ bJ);clear a4 bJ bO;go_wp2_with(fail);refine(b9.o k y bM.o _ _ _ _ _ _ wr ac.o ?_).mono ?_
   ·exact J7 (wZ x.aU k y) (J7 (ke x (l3 x bM.o).1) F.o)
   rintro e aN ⟨rfl,ar⟩;have cd:=(l3 x bM.o).2;have ae:=ad (L.on ar.fr);have d0:=(ar.cell (j:=o+k*4) aW (fun h=>h)).trans c0;have bF:b<aN.heap.size:=JR aW ar.size;have aq:=ad (b5 bj.o (Fr.ext ar));clear L bj a0 ap ak c0 c1 c2 c3 ar aW;obtain⟨a0,ap,ak⟩:=ae.blk.two;go_wp2_with(fail);refine(rf x.aU x.numOf y.aU x.a1 b o m c k aN cd aw bF d0).mono ?_;rintro e aO ⟨rfl,bI⟩;have l:=ad (ae.on bI.fr);have aZ:=ad (b5 aq.o (Fr.ext bI));clear ae aq a0 ap ak d0 bF bI;obtain⟨a0,ap,ak⟩:=l.blk.two;have HA:=ad (wY x.aU k y);have Q:=ad (l3 x bM.o).1;have bi:(strOf (bL y)).size≤262144:=by
    rw[aG];exact J7 (wZ x.aU k y) (J7 (ke x (l3 x bM.o).1) F.o)
   rw[←Et] at *;have bO:w.heap.size+1≤aO.heap.size:=l.blk.lt;by_cases al:dn x.aU y.aU (k == 1)=true
   ·rw[al];have bt:=ad (show (⟨#[40]⟩:ByteArray)++strOf (bL y)++⟨#[41]⟩=strOf (gf x.aU k y) by
     rw[HA.o,if_pos al,show (⟨#[40]⟩:ByteArray)=strOf [40] from rfl,show (⟨#[41]⟩:ByteArray)=strOf [41] from rfl,ag,ag];simp)
    clear al HA;exact Fo
   ·have K:dn x.aU y.aU (k == 1)=false:=by simpa using al
    rw[K];have bt:=ad (show strOf (bL y)=strOf (gf x.aU k y) by rw[HA.o,if_neg al]);clear al K HA;exact Fo
  ·have H:k=m:=ab;subst H;have aX:=ad (yj (by
    have:=bj.o;rw[←b8.o,List.take_length] at this;rw[←b8.o];exact this) b8.o)
   have a2:=ad L.ext;clear bj b9;have g2:decide ((k:Int)<(k:Int))=false:=by simp
   cases x with
   | num n=>
    have hn:0≤n∧n<4611686018427387904:=by have:=aP.o;cases d<;>exact this
    have bW:=ad (show lp n=bL (.num n) by rw[uC hn.1];simp[bL,b1,aR,Atom.bytes]);have O:=lO n wr ab;simp only[VE.aU,VE.numOf,VE.a1] at *;clear g2;go_wp2_with(fail);refine O.mono ?_;rintro e aN ⟨rfl,ar⟩;have br:=ad (a2.trans (Fr.of ar));clear ar O;go_wp2;go_ret
    exact⟨ret_str (by rw[bW.o]),br.o⟩
   | gy s=>
    simp only[VE.aU,VE.numOf,VE.a1] at *;have bW:=ad (show s=strOf (bL (.gy s)) by simp[bL,b1,aR,Atom.bytes,strOf]);go_wp2;go_ret
    exact⟨ret_str bW.o,a2.o⟩
   | loc j=>exact(by have:=aP.o;cases d<;>exact this:False).elim
   | ia j=>exact(by have:=aP.o;cases d<;>exact this:False).elim
   | un op y=>
    obtain rfl:k=1:=b8.symm;obtain⟨b,o,z,rfl,O,bi,hc⟩:=aX.str (k:=0) ab;have V:strOf (gf op 0 y)=z:=by simpa[gi] using bi
    subst V;have U:(strOf (gf op 0 y)).size≤262144:=by
     rw[aG];exact J7 (ke (.un op y) (k:=0) rfl) F.o
    have aE:op=3∨op=4:=by
     cases d with
     | zero=>exact aP.elim
     | succ d=>exact aP.1
    have l:=ad (xu op y);simp only[J0] at hc;clear bi aP L F b8 bN b7 g2 ak dR;rcases aE with rfl|rfl
    ·have bW:=ad (show (⟨#[45]⟩:ByteArray)++strOf (gf 3 0 y)=strOf (bL (.un 3 y)) by rw[l.o,if_pos rfl];exact ag [45] _);clear l;generalize gf 3 0 y=t at *;exact yY
    ·have bW:=ad (show (⟨#[33]⟩:ByteArray)++strOf (gf 4 0 y)=strOf (bL (.un 4 y)) by rw[l.o,if_neg ab];exact ag [33] _);clear l;generalize gf 4 0 y=t at *
     exact yY
   | bin op y z=>
    obtain rfl:k=2:=b8.symm;obtain⟨b,o,aD,rfl,O,X,u⟩:=aX.str (k:=0) ab;obtain⟨R,aA,bq,e,_,M,bB⟩:=aX.str (k:=1) ab;simp only[Ki,Addr.mk.injEq,and_true] at e;obtain⟨rfl,rfl⟩:=e;have V:strOf (gf op 0 y)=aD:=by simpa[gi] using X
    have av:strOf (gf op 1 z)=bq:=by simpa[gi] using M
    subst V av;have aQ:(strOf (gf op 0 y)).size≤262144:=by
     rw[aG];exact J7 (ke (.bin op y z) (k:=0) rfl) F.o
    have hf:(strOf (gf op 1 z)).size≤262144:=by
     rw[aG];exact J7 (ke (.bin op y z) (k:=1) rfl) F.o
    have aE:5≤op∧op≤17:=by
     cases d with
     | zero=>exact aP.elim
     | succ d=>exact aP.1
    have bW:=ad (show ((strOf (gf op 0 y)++⟨#[32]⟩)++strOf (gF op))++⟨#[32]⟩++strOf (gf op 1 z)=strOf (bL (.bin op y z)) by
     rw[uo,show (⟨#[32]⟩:ByteArray)=strOf [32] from rfl,ag,ag,ag,ag];simp)
    have bE:(strOf (gF op)).size≤2:=by
     rw[aG];unfold gF
     repeat' split
     all_goals simp
    have o1:(op == 1)=false:=by simp;omega
    have eN:(op == 2)=false:=by simp;omega
    have o3:(op == 3)=false:=by simp;omega
    have o4:(op == 4)=false:=by simp;omega
    obtain⟨b6,cx,bf,bQ⟩:=ue aE;have ax:=ad (fun(i:Nat)=>ER (i:=i) aE);obtain⟨ah,cW⟩:=aM bQ bf;simp only[J0] at u;clear X M aP F b8 bN b7 g2 ak dR aX bQ aE;generalize strOf (gf op 0 y)=t0 at *;generalize strOf (gf op 1 z)=t1 at *;generalize strOf (gF op)=sg at *;simp only[VE.aU,VE.numOf,VE.a1] at *;go_wp2_with(fail);refine(fY op wr).mono ?_;rintro e aN ⟨rfl,ar⟩;rw[bf];go_wp2_with(fail);refine(rC b6 cx aN).mono ?_;rintro e aO ⟨bp,an,n,hn,rfl,hs,a8,bI⟩;have q:=ar.trans bI;have J:=ad (a2.trans q);have e0:=(q.cell (j:=o) O (fun h=>h)).trans u;have e1:=(q.cell (j:=o+1) O (fun h=>h)).trans bB;have bx:b<aO.heap.size:=JR O q.size;have l:=ad (L.on (Ext.fr q));obtain⟨a6,am,aI⟩:=l.blk.two;simp only[VE.aU,VE.numOf,VE.a1] at a6;have bj:=ai hs a8;clear hs a8 ar bI q u bB O a0 ap L a2 bf;go_wp2_with(fail);go_loopw [8] (fun cg wr=>∃j:Nat,j≤n∧cg=.int .i64 j∧(∀(i:Nat) (x:Int),i<j→(ni b6)[i]?=some x→x≠op)∧Ext aO wr) (fun cg _=>n - (intOf cg).toNat)
    case atStart=>exact⟨0,ab,rfl,fun i x h=>ab,Kn⟩
    case round=>
     obtain⟨j,bc,rfl,a1,bX⟩:=hrel;obtain⟨bA,bl⟩:=aM a1 bX;obtain⟨v0,aH⟩:=Fr.uu bX;clear a1 bX;by_cases Y:j<n
     ·obtain⟨c1,aS,x,rfl,bS,hx,aC⟩:=bj.2.int Y;obtain⟨c2,aT,gA,rfl,aL,cU,T⟩:=bj.1.str Y;have aP:=ad hx;by_cases qw:x=op
      ·subst qw;have G:=ax.o j (by rw[cW.o];exact hx);rw[cW.o,Kb,cU] at G;injection G with G;subst G;clear hx cU;go_wp2;go_quiet (fail)
       go_wp2;go_quiet (fail)
       go_wp2;go_ret;exact⟨ret_str bW.o,J.trans ((bl.drewN _).drewN _)⟩
      ·have q1:(x == op)=false:=by simpa using qw
       have P:=ad qw;clear qw hx cU;go_wp2;go_quiet (fail)
       go_wp2
       go_round
       case rel=>refine⟨j+1,ab,by go_num,fun i y al a4=>?_,?_⟩;rotate_left;exact bl.drewN _;exact(by
        by_cases v:i=j
        ·subst v;rw[aP.o] at a4;injection a4 with a4;subst a4;exact P.o
        ·exact bA.o i y ab a4)
       case measure=>exact aB
     ·exfalso;obtain⟨i,al⟩:=List.getElem?_of_mem ah.o;have aw:=(List.getElem?_eq_some_iff.1 al).1;have hl:=bj.2.1;exact bA.o i op ab al rfl
 ):p:=h
end AH
open AH in
theorem rE(N:Ks)(d:Nat)(x:VE)(hx:x.src N d)(ao:∀(k:Nat) (y:VE),x.args[k]?=some y→yL y):yL x:=by
 intro op n s A m c w aU hlen;exact oN
theorem jw(N:Ks):∀(d:Nat) (x:VE),x.src N d→yL x
 | 0,x,h=>rE N 0 x h fun k y a4=>by rw[qh h] at a4;simp at a4
 | d+1,x,h=>rE N (d+1) x h fun k y a4=>jw N d y (qg h a4)
def fD(r:eF):List UInt8:=aR (h4 r)
theorem wc(h:r.idx=none):fD r=r.name.data.toList:=by
 unfold fD h4;rw[h];simp[aR,Atom.bytes]
theorem we{e:VE}(h:r.idx=some e):fD r=r.name.data.toList++91::(bL e++[93]):=by
 unfold fD h4 bL;rw[h];simp[aR,Atom.bytes]
theorem jk:(km r).rep w P cs↔∃A n c,cs=[.string r.name,.slice A n c]∧n≤c∧Sl w P A n (r.idx.toList.map bb):=by
 unfold km;rw[bu,b9];constructor
 ·rintro⟨y,rfl,h⟩;obtain⟨A,n,c,aa,rfl,hc,hs,aT⟩:=aD.1 h;exact wQ
 ·rintro⟨A,n,c,rfl,hc,hs⟩;exact Cf
def Dt(r:eF):Prop:=∀e,r.idx=some e→∃N d,e.src N d
theorem cT(s:ByteArray):strOf s.data.toList=s:=by simp[strOf]
namespace AI
theorem zg(h:p:=by
 refine pf ?_;refine aA ?_;go_wp2;go_ret;exact⟨ret_str bW.o,a2.trans (Fr.aO ar)⟩
 ):p:=h
end AI
open AI in
theorem kx(r:eF)(av:Dt r)(s:ByteArray)(A:Kr)(n c:Nat)(w:World)(aU:(km r).rep w (au w) [.string s,.slice A n c])(hlen:(fD r).length≤262144) :
  Calls prog 149 #[.agg #[.string s,.slice A n c]] w fun e ac=>e=.returned (.string (strOf (fD r)))∧Ext w ac:=by
 obtain⟨I,aZ,az,e,bJ,hs⟩:=jk.1 aU;simp only[List.cons.injEq,Value.string.injEq,Value.slice.injEq,and_true] at e;obtain⟨rfl,rfl,rfl,rfl⟩:=e
 cases al:r.idx with
 | none=>
  rw[al] at hs;obtain rfl:n=0:=hs.1.symm;have bW:=ad (show r.name=strOf (fD r) by rw[wc al,cT]);clear al hs aU hlen av;go_enter func149,ntmps149;go_wp2;go_ret
  exact⟨ret_str bW.o,Kn.alloc _⟩
 | some x=>
  rw[al] at hs;obtain rfl:n=1:=hs.1.symm;obtain⟨N,d,hx⟩:=av x al;obtain⟨b,o,br,Z,ax,E,rfl,O,bp,c0,c1,c2,c3⟩:=Sl.C2 hs (cZ x);obtain⟨B,bZ,eL,e,cu,bO⟩:=aV.1 bp;simp only[List.cons.injEq,and_true] at e;obtain⟨rfl,rfl,rfl,rfl⟩:=e;have aW:b<w.heap.size:=O;have L:=ad (we al);have X:r.name.size≤262144:=by
   have:=hlen;rw[L.o,JS] at this;have aC:r.name.size=r.name.data.toList.length:=rfl;omega
  have M:(bL x).length≤262144:=by
   have:=hlen;rw[L.o,JS] at this;simp at this;omega
  have bW:=ad (show r.name++⟨#[91]⟩++strOf (bL x)++⟨#[93]⟩=strOf (fD r) by
   rw[L.o,show (⟨#[91]⟩:ByteArray)=strOf [91] from rfl,show (⟨#[93]⟩:ByteArray)=strOf [93] from rfl];conv=>lhs;rw[←cT r.name]
   rw[ag,ag,ag];simp)
  have ba:=ad M;have bl:(strOf (bL x)).size≤262144:=by rw[aG];exact M
  have aP:=ad (jw N d x hx);have T:=ad bp;clear al hs aU hlen av L bp bO O M hx;go_enter func149,ntmps149;go_wp2;generalize bg:World.alloc _ _=W;have aF:Ext w W:=bg▸Kn.alloc _;obtain⟨a0,ap,ak⟩:=(show af W w.heap.size 189 #[.string r.name,.slice (some ⟨b,o,none⟩) 1 c] by rw[←bg];exact Ko).two;have d0:=(aF.cell (j:=o) aW (fun h=>h)).trans c0;have d1:=(aF.cell (j:=o+1) aW (fun h=>h)).trans c1;have d2:=(aF.cell (j:=o+2) aW (fun h=>h)).trans c2;have d3:=(aF.cell (j:=o+3) aW (fun h=>h)).trans c3;have f:b<W.heap.size:=JR aW aF.size;have a2:=ad aF;clear bg aF c0 c1 c2 c3 aW;refine eE (fun _=>False) [(0,3),(1,0),(2,3),(3,3),(4,0),(5,3),(6,0),(7,1),(8,3),(9,3),(10,3)] ?_;refine pf ?_;refine ph ?_;refine bf (v:=?_) rfl (by rfl) (fun V=>?_) ?_;rotate_left
  ·go_simp;exact dR
  try simp only[PU]
  refine pf ?_;refine ph ?_;refine pf ?_;refine ph ?_;refine aK rfl (fun K hK=>?_);go_simp;refine(aP.o _ _ _ _ _ _ _ (D.on T.o (Fr.ext a2.drew)) ba.o).mono ?_;exact zf
def nS(a:da):List UInt8:=aR (fj a)
def iU(l:List da):List UInt8:=40::aR (dN (l.map fj))
def hj(l:List da):List UInt8:=aR (iG l)
theorem rD(l:List da):hj l=iU l++[41]:=by
 unfold hj iG iU;rw[aX,aY];rfl
theorem lM:∀(l:List (List Atom)) (a:List Atom),dN (l++[a])=if l=[] then a else dN l++(.sg [44]::.ws 32::a)
 | [],a=>rfl
 | [b],a=>by simp[dN]
 | b::d::l,a=>by
  have ao:=lM (d::l) a;rw[if_neg (by simp)] at ao;rw[if_neg (by simp)];show dN (b::d::(l++[a]))=_
  simp only[dN];rw[J5] at ao;rw[ao];simp
theorem qO{aS:List da}{a:da}(h:aS[k]?=some a):iU (aS.take (k+1))=iU (aS.take k)++((if 0<k then [44,32] else [])++nS a):=by
 have aj:k<aS.length:=(List.getElem?_eq_some_iff.1 h).1;unfold iU nS;rw[List.take_add_one,h,JX];show (40:UInt8)::aR (dN (List.map fj (List.take k aS)++[fj a]))=_
 rw[lM];by_cases h0:0<k
 ·rw[if_neg (by intro e;have:=congrArg List.length e;simp only[JU,List.length_take,J9] at this;omega),if_pos h0,aY,aX,aX];simp[Atom.bytes]
 ·obtain rfl:k=0:=ab;simp[dN,aR]
theorem xA(aS:List da)(k:Nat):(iU (aS.take k)).length≤(iU (aS.take (k+1))).length:=by
 cases h:aS[k]? with
 | none=>rw[JY (i:=k+1) (by have:=List.getElem?_eq_none_iff.1 h;omega),JY (List.getElem?_eq_none_iff.1 h)];exact JQ _
 | some a=>rw[qO h];simp
theorem wT(aS:List da):∀j k:Nat,(iU (aS.take k)).length≤(iU (aS.take (k+j))).length
 | 0,k=>JQ _
 | j+1,k=>J7 (wT aS j k) (xA aS (k+j))
theorem ta(aS:List da)(aj:k≤aS.length):(iU (aS.take k)).length≤(hj aS).length:=by
 have:=wT aS (aS.length - k) k;rw[show k+(aS.length - k)=aS.length by omega,List.take_length] at this;rw[rD];simp;omega
def ES:da→Prop
 | .mx r=>Dt r
 | .ex e=>∃N d,e.src N d
theorem sc(a:da):(gu a).sz=7:=by
 cases a with
 | mx r=>rfl
 | ex e=>show D.yr [.b false,fE,bb e]=7;simp only[D.yr,cZ,D.sz,fE]
theorem dq{d:D}{l:List D}:D.aI w P (d::l) cs↔∃x y,cs=x++y∧d.rep w P x∧D.aI w P l y:=by simp only[D.aI]
theorem Ec(h:(gu (.mx r)).rep w P cs):∃s A n c e0 e1 e2 e3,cs=[.bool true,.string s,.slice A n c,e0,e1,e2,e3]∧(km r).rep w P [.string s,.slice A n c]:=by
 unfold gu at h;rw[bu,eX] at h;obtain⟨y,rfl,h⟩:=h;obtain⟨x,bm,rfl,hx,a4⟩:=dq.1 h;obtain⟨A,n,c,rfl,hc,hs⟩:=jk.1 hx;rw[D.bj] at a4;obtain⟨A2,c2,rfl⟩:=eT.1 a4;exact⟨_,A,n,c,_,_,_,_,rfl,hx⟩
namespace AJ
theorem u0(h:p:=by
 obtain⟨A,n,c,a9,rfl,_,_,bi⟩:=aD.1 hx;rw[aJ] at bi;subst bi;exact yP
 ):p:=h
end AJ
open AJ in
theorem Eb{e:VE}(h:(gu (.ex e)).rep w P cs):∃bv r1 op n s A m c,cs=[.bool false,bv,r1,.int .i64 op,.int .i64 n,.string s,.slice A m c]∧(bb e).rep w P [.int .i64 op,.int .i64 n,.string s,.slice A m c]:=by
 exact uZ
theorem r3(aS:List da)(av:∀a∈aS,ES a)(A:Kr)(n c:Nat)(w:World)(hs:Sl w (au w) A n (aS.map gu))(hlen:(hj aS).length≤262144)(hn:n≤1000) :
  Calls prog 148 #[.slice A n c] w fun e ac=>e=.returned (.string (strOf (hj aS)))∧Ext w ac:=by
 have hl:aS.length=n:=by rw[←hs.1,JU]
 obtain⟨bK,bu,ca,F⟩:=iF hl hs av hlen;clear hs av hlen hl;go_enter func148,ntmps148;go_wp2;go_loopw [3,4] (fun sv ba wr=>∃k:Nat,k≤n∧ba=.int .i64 k∧sv=.string (strOf (iU (aS.take k)))∧Ext w wr) (fun _ ba _=>n - (intOf ba).toNat)
 case atStart=>exact⟨0,ab,rfl,rfl,Kn⟩
 case round=>
  obtain⟨k,aj,rfl,rfl,aF⟩:=hrel;have a2:=ad aF;clear aF;have bi:(strOf (iU (aS.take k))).size≤262144:=by
   rw[aG];exact J7 (ta aS (by rw[bK.o];exact aj)) F.o
  by_cases aw:k<n
  ·obtain⟨b,o,a,cs,rfl,O,aV,S,a3,Z⟩:=(bu.on (Fr.ext a2.o)).gN sc aw;have aW:b<wr.heap.size:=O;have HA:=ad aV;have i:=ad (qO aV);have cA:=ad (ca.o a (JT aV));have aD:(nS a).length≤262144:=by
    have ae:=ta aS (k:=k+1) (by rw[bK.o];exact aw);rw[i.o] at ae;have aC:=F.o;simp at ae;omega
   have f:=ad aD;have bl:(strOf (nS a)).size≤262144:=by rw[aG];exact aD
   clear aV aD O
   cases a with
   | mx r=>
    obtain⟨s,cj,bc,rc,e0,e1,e2,e3,rfl,T⟩:=Ec S;have c0:=Z 0 _ rfl;have c1:=Z 1 _ rfl;have c2:=Z 2 _ rfl;simp only[J0] at c0;have L:=ad T;clear Z S T;have l:=ad (show nS (.mx r)=[109,117,116,101,120,32]++fD r by
     unfold nS fj fD;rw[aX,aX];simp[kw,fy,Atom.bytes])
    have t:(fD r).length≤262144:=by
     have:=f.o;rw[l.o] at this;simp at this;omega
    have j:=ad t;have G:(strOf (fD r)).size≤262144:=by rw[aG];exact t
    clear t;by_cases h0:0<k
    ·
     have q:decide ((k:Int) > 0)=true:=by simp;omega
     have bt:=ad (show strOf (iU (aS.take k))++⟨#[44,32]⟩++⟨#[109,117,116,101,120,32]⟩++strOf (fD r)=strOf (iU (aS.take (k+1))) by
      rw[i.o,if_pos h0,l.o,show (⟨#[44,32]⟩:ByteArray)=strOf [44,32] from rfl,show (⟨#[109,117,116,101,120,32]⟩:ByteArray)=strOf [109,117,116,101,120,32] from rfl,ag,ag,ag]
      try simp)
     go_wp2_with(fail);refine(kx r cA.o s cj bc rc wr L.o j.o).mono ?_;rintro e aN ⟨rfl,ar⟩;have br:=ad (a2.trans ar);clear ar c0 c1 c2 a2;exact wK
    ·
     have q:decide ((k:Int) > 0)=false:=by simp;omega
     have bt:=ad (show strOf (iU (aS.take k))++⟨#[109,117,116,101,120,32]⟩++strOf (fD r)=strOf (iU (aS.take (k+1))) by
      rw[i.o,if_neg h0,l.o,show (⟨#[109,117,116,101,120,32]⟩:ByteArray)=strOf [109,117,116,101,120,32] from rfl,ag,ag]
      try simp)
     go_wp2_with(fail);refine(kx r cA.o s cj bc rc wr L.o j.o).mono ?_;rintro e aN ⟨rfl,ar⟩;have br:=ad (a2.trans ar);clear ar c0 c1 c2 a2
     exact wK
   | ex x=>
    obtain⟨bv,r1,op,a8,s,EA,em,ec,rfl,g⟩:=Eb S;have c0:=Z 0 _ rfl;have c1:=Z 3 _ rfl;have c2:=Z 4 _ rfl;have c3:=Z 5 _ rfl;have u:=Z 6 _ rfl;simp only[J0] at c0;have m:=ad g;have G:(strOf (bL x)).size≤262144:=bl;obtain⟨N,d,hx⟩:=cA.o;have aP:=ad (jw N d x hx);clear Z S g hx cA;by_cases h0:0<k
    ·
     have q:decide ((k:Int) > 0)=true:=by simp;omega
     have bt:=ad (show strOf (iU (aS.take k))++⟨#[44,32]⟩++strOf (bL x)=strOf (iU (aS.take (k+1))) by
      rw[i.o,show nS (.ex x)=bL x from rfl,if_pos h0,show (⟨#[44,32]⟩:ByteArray)=strOf [44,32] from rfl,ag,ag]
      try simp)
     go_wp2_with(fail);refine(aP.o op a8 s EA em ec wr m.o f.o).mono ?_;rintro e aN ⟨rfl,ar⟩;have br:=ad (a2.trans ar);clear ar c0 c1 c2 c3 u a2;exact wK
    ·
     have q:decide ((k:Int) > 0)=false:=by simp;omega
     have bt:=ad (show strOf (iU (aS.take k))++strOf (bL x)=strOf (iU (aS.take (k+1))) by
      rw[i.o,show nS (.ex x)=bL x from rfl,if_neg h0,ag]
      try simp)
     go_wp2_with(fail);refine(aP.o op a8 s EA em ec wr m.o f.o).mono ?_;rintro e aN ⟨rfl,ar⟩;have br:=ad (a2.trans ar);clear ar c0 c1 c2 c3 u a2;exact wK
  ·obtain rfl:k=n:=ab;have bt:=ad (show strOf (iU (aS.take k))++⟨#[41]⟩=strOf (hj aS) by
    rw[rD,←bK.o,List.take_length,←ag];rfl)
   go_wp2;go_ret;exact⟨ret_str bt.o,a2.o⟩
inductive ax where
 | set (v:Bool) (n:ByteArray) (e:VE)
 | call (g:Bool) (n:ByteArray) (aS:List da)
 | lock (u:Bool) (r:eF)
 | ite (e:VE) (th el:al)
 | gb (e:VE) (th:al)
 | ret
def al.list:al→List ax
 | .nil=>[]
 | .set v n e rest=>.set v n e::rest.list
 | .call g n aS rest=>.call g n aS::rest.list
 | .lock u r rest=>.lock u r::rest.list
 | .ite e th el rest=>.ite e th el::rest.list
 | .gb e th rest=>.gb e th::rest.list
 | .ret rest=>.ret::rest.list
def a2:ax→D
 | .set v n e=>gp (if v then 1 else 2) n (bb e) fE [] [] []
 | .call g n aS=>gp (if g then 4 else 3) n jA fE (aS.map gu) [] []
 | .lock u r=>gp (if u then 6 else 5) ⟨#[]⟩ jA (km r) [] [] []
 | .ite e th el=>gp 7 ⟨#[]⟩ (bb e) fE [] (cP th) (cP el)
 | .gb e th=>gp 8 ⟨#[]⟩ (bb e) fE [] (cP th) []
 | .ret=>gp 9 ⟨#[]⟩ jA fE [] [] []
theorem cx:∀b:al,cP b=b.list.map a2
 | .nil=>rfl
 | .set v n e rest=>by simp only[cP,al.list,JW,a2,cx rest]
 | .call g n aS rest=>by simp only[cP,al.list,JW,a2,cx rest]
 | .lock u r rest=>by simp only[cP,al.list,JW,a2,cx rest]
 | .ite e th el rest=>by simp only[cP,al.list,JW,a2,cx rest]
 | .gb e th rest=>by simp only[cP,al.list,JW,a2,cx rest]
 | .ret rest=>by simp only[cP,al.list,JW,a2,cx rest]
def dh(t:Nat):ax→List UInt8
 | .set v n e=>List.replicate t 9++((if v then [118,97,114,32] else [])++(n.data.toList++([32,61,32]++(bL e++[59,10]))))
 | .call g n aS=>List.replicate t 9++((if g then [103,111,32] else [])++(n.data.toList++(hj aS++[59,10])))
 | .lock u r=>List.replicate t 9++((if u then [117,110,108,111,99,107,32] else [108,111,99,107,32])++(fD r++[59,10]))
 | .ite e th el=>List.replicate t 9++([105,102,32]++(bL e++([32,123,10]++(aR (aT (t+1) th)++(List.replicate t 9++([125] ++
   ((if el.isNil then [] else [32,101,108,115,101,32,123,10]++(aR (aT (t+1) el)++(List.replicate t 9++[125])))++[10])))))))
 | .gb e th=>List.replicate t 9++([119,104,105,108,101,32]++(bL e++([32,123,10]++(aR (aT (t+1) th)++(List.replicate t 9++[125,10])))))
 | .ret=>List.replicate t 9++[114,101,116,117,114,110,59,10]
def cq(t:Nat)(b:al):List UInt8:=aR (aT t b)
theorem fo(t:Nat):aR (fa t)=List.replicate t 9:=by
 induction t with
 | zero=>rfl
 | succ t ao=>unfold fa at *;rw[List.replicate_succ,aX,ao];rfl
theorem qT:aR []=[]:=rfl
theorem eI(t:Nat):∀b:al,cq t b=(b.list.map (dh t)).flatten
 | .nil=>rfl
 | .set v n e rest=>by
  have ao:=eI t rest;unfold cq at *;simp only[aT,al.list,JW,List.flatten_cons,←ao,dh,aY,aX,fo,bL]
  cases v<;>simp[Atom.bytes,kw,aR]
 | .call g n aS rest=>by
  have ao:=eI t rest;unfold cq at *;simp only[aT,al.list,JW,List.flatten_cons,←ao,dh,aY,aX,fo,hj]
  cases g<;>simp[Atom.bytes,kw,aR]
 | .lock u r rest=>by
  have ao:=eI t rest;unfold cq at *;simp only[aT,al.list,JW,List.flatten_cons,←ao,dh,aY,aX,fo,fD]
  cases u<;>simp[Atom.bytes,kw,aR]
 | .ite e th el rest=>by
  have ao:=eI t rest;unfold cq at *;simp only[aT,al.list,JW,List.flatten_cons,←ao,dh,aY,aX,fo,bL];cases hn:el.isNil
  ·simp only[Kl,if_false,aY,aX,fo];simp[Atom.bytes,kw,qT]
  ·simp only[if_true]
   simp[Atom.bytes,kw,qT]
 | .gb e th rest=>by
  have ao:=eI t rest;unfold cq at *;simp only[aT,al.list,JW,List.flatten_cons,←ao,dh,aY,aX,fo,bL]
  simp[Atom.bytes,kw]
 | .ret rest=>by
  have ao:=eI t rest;unfold cq at *;simp only[aT,al.list,JW,List.flatten_cons,←ao,dh,aY,aX,fo];simp[Atom.bytes,kw]
end Go.Proofs.YtbkhhfajcgkpgaaGreat
