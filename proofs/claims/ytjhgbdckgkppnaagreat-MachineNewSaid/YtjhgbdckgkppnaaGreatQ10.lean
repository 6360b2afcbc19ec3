/- Part 10 of the proof (PrA PrB PrC PrD PrE PrF), without conditions of its own. -/
import Derived.Test.YtjhgbdckgkppnaaGreatQ09
namespace Go.Proofs.YtjhgbdckgkppnaaGreat
open Go.RowKit Go.Proofs.Tryz
set_option maxRecDepth 1000000
set_option maxHeartbeats 25600000
set_option linter.unusedVariables false
variable{op:Int}{l:List UInt8}{cs:List Value}{B N base g k m n:Nat}{M P:Nat→Prop}{p:Prop}{e t:TypeId}{x y:VE}{ab w:World}{r:d2}
def byteOf(v:Int):UInt8:=UInt8.ofNat v.toNat
theorem jS(W:World)(v:Int):(convert 131 9 (.slice (some ⟨W.heap.size,0,none⟩) 1 1)).run prog (W.alloc (.cells #[.int .u8 v] 5))=.ok (.string (strOf [byteOf v])) (W.alloc (.cells #[.int .u8 v] 5)):=by
 have:=run_convert_bytes_arg (P:=prog) (W.alloc (.cells #[.int .u8 v] 5)) 131 5 Tryz.underlying131 Tryz.underlying5 W.heap.size 0 1 1 [v] rfl (fun i aJ=>by
  have:i=0:=ad;subst this;rw[(ag.new W 5 #[.int .u8 v]).cell];rfl) 9 Tryz.underlying9
 rw[this];rfl
theorem aI(l:List UInt8):(strOf l).size=l.length:=by simp[strOf,ByteArray.size]
theorem nJ(m:Nat):byteOf (48+((m:Int) % 10))=UInt8.ofNat (48+m % 10):=by
 unfold byteOf;congr 1
theorem ret_str{a b:ByteArray}(h:a=b):Ending.returned (.string a)=.returned (.string b):=by rw[h]
theorem ah(a b:List UInt8):strOf a++strOf b=strOf (a++b):=by
 unfold strOf;rw[ByteArray.ext_iff];simp
def hZ(N m:Nat)(l:List UInt8):Prop:=iw N=(if m=0 then [] else iw m)++l
theorem pd(N:Nat):hZ N (N / 10) [UInt8.ofNat (48+N % 10)]:=by
 unfold hZ;rw[iw];split
 ·rename_i h;rw[if_pos ad,show N % 10=N by omega];rfl
 ·rw[if_neg ad]
theorem Aj(h:hZ N m l)(hm:0<m):hZ N (m / 10) (UInt8.ofNat (48+m % 10)::l):=by
 unfold hZ at *;rw[if_neg ad] at h;rw[h];have:=pd m;unfold hZ at this;rw[this];simp
theorem BW(h:hZ N m l)(cj:N≤9223372036854775808):l.length≤20:=by
 have:=ix 19 N ad;unfold hZ at h;rw[h,Gd] at this;omega
theorem nN(N:Nat)(w:World)(cj:N≤9223372036854775808) :
  Calls prog 149 #[.int .u64 N] w fun e ab=>e=.returned (.string (strOf (iw N)))∧Below w.heap.size w ab:=by
 have kc:=jS w;go_enter func149,ntmps149;go_wp2;go_loopw [0,3] (fun a sv wr=>∃(m:Nat) (l:List UInt8),a=.int .u64 m∧sv=.string (strOf l)∧m≤N∧hZ N m l∧Below w.heap.size w wr) (fun a _ _=>(intOf a).toNat)
 case atStart=>exact⟨N / 10,[byteOf (48+(N:Int) % 10)],by simp,rfl,ad,by rw[nJ];exact pd N,(Below.refl _ _).alloc (Gb _) _⟩
 case round=>
  obtain⟨m,l,rfl,rfl,hm,aX,O⟩:=hrel;have aZ:=ae aX;have a4:=ae O;have hl:=BW aX cj;clear aX O kc;have kc:=jS wr;by_cases h0:0<m
  ·have q:decide ((m:Int) > 0)=true:=by simp;omega
   have o:decide (m > 0)=true:=by simp;omega
   have bv:(strOf l).size≤20:=by rw[aI];omega
   have da:(strOf [byteOf (48+(m:Int) % 10)]).size≤1:=by rw[aI];simp
   go_wp2;go_roundw
   case rel=>exact⟨m / 10,byteOf (48+(m:Int) % 10)::l,by simp,by rw[ah];rfl,ad,by rw[nJ];exact Aj aZ.o h0,a4.alloc a4.size _⟩
   case measure=>simp[intOf];omega
  ·have an:m=0:=ad;have bh:=ae (show iw N=l by have:=aZ.o;unfold hZ at this;rw[if_pos an] at this;simpa using this);have q:decide ((m:Int) > 0)=false:=by simp;omega
   clear an;go_wp2;go_ret;exact⟨ret_str (by rw[bh.o]),a4.o⟩
def ks(n:Int):List UInt8:=aS (gF n)
theorem vT{n:Int}(h:n<0):ks n=45::iw n.natAbs:=by unfold ks gF;rw[if_pos h];simp[aS,Atom.bytes]
theorem r2{n:Int}(h:0≤n):ks n=iw n.toNat:=by unfold ks gF;rw[if_neg ad];simp[aS,Atom.bytes]
theorem kK(n:Int)(w:World)(h:-9223372036854775808≤n∧n≤9223372036854775807) :
  Calls prog 134 #[.int .i64 n] w fun e ab=>e=.returned (.string (strOf (ks n)))∧Below w.heap.size w ab:=by
 by_cases hn:n<0
 ·obtain⟨m,rfl⟩:∃m:Nat,n = -((m:Int)+1):=⟨(-(n+1)).toNat,ad⟩
  have hm:m≤9223372036854775807:=ad;have P:=ae (vT hn);clear hn h;go_enter func134,ntmps134;go_wp2_with (fail);rw[show (-(-((m:Int)+1)+1)+1)=((m+1:Nat):Int) by omega];refine(nN (m+1) w ad).mono ?_;rintro e ab ⟨rfl,O⟩;have a4:=ae O;clear O;have bv:(strOf (iw (m+1))).size≤20:=by rw[aI];exact ix 19 _ ad
  go_wp2;go_ret;exact⟨ret_str (by rw[P.o,show (-((m:Int)+1)).natAbs=m+1 by omega];exact ah [45] _),a4.o⟩
 ·obtain⟨m,rfl⟩:=Gg (show 0≤n by omega);have P:=ae (r2 (n:=(m:Int)) ad);clear hn;go_enter func134,ntmps134;go_wp2_with (fail);refine(nN m w ad).mono ?_;rintro e ab ⟨rfl,O⟩;have a4:=ae O;clear O;go_wp2;go_ret;exact⟨ret_str (by rw[P.o,Gy]),a4.o⟩
def lB:Nat→List (List UInt8×Int)
 | 0=>[([124,124],17)]
 | 1=>[([38,38],16)]
 | 2=>[([61,61],14),([33,61],15),([60],10),([60,61],11),([62],12),([62,61],13)]
 | 3=>[([43],8),([45],9)]
 | _=>[([42],5),([47],6),([37],7)]
def Es(k:Nat):List ByteArray:=(lB k).map fun p=>strOf p.1
def l8(k:Nat):List Int:=(lB k).map (·.2)
theorem Bk{cs:Array Value}{l:List Int}(h:ag w g t cs)(hc:cs=(l.map (Value.int .i64)).toArray)(hl:l.length=n)(aT:g<B):cG (EF dB) 1 w B (some ⟨g,0,none⟩) n l:=by
 subst hc;refine⟨hl,fun _=>⟨g,0,rfl,aT,fun k x hx=>⟨dB x,rfl,rfl,fun j v ba=>?_⟩⟩⟩;have cy:j=0∧v=.int .i64 x:=by
  cases j with
  | zero=>simp[dB] at ba;exact⟨rfl,ba.symm⟩
  | succ j=>simp[dB] at ba
 obtain⟨rfl,rfl⟩:=cy;rw[h.cell];simp[hx]
theorem Bl{cs:Array Value}{l:GS}(h:ag w g t cs)(hc:cs=(l.map Value.string).toArray)(hl:l.length=n)(aT:g<B):cG (EF mO) 1 w B (some ⟨g,0,none⟩) n l:=by
 subst hc;refine⟨hl,fun _=>⟨g,0,rfl,aT,fun k x hx=>⟨mO x,rfl,rfl,fun j v ba=>?_⟩⟩⟩;have cy:j=0∧v=.string x:=by
  exact wy
 obtain⟨rfl,rfl⟩:=cy;rw[h.cell];simp[hx]
def wa(w:World)(k:Nat)(e:Ending)(ab:World):Prop:=
 ∃A B n,n≤6∧e=.returned (.tuple #[.slice A n n,.slice B n n])∧cG (EF mO) 1 ab ab.heap.size A n (Es k)∧cG (EF dB) 1 ab ab.heap.size B n (l8 k)∧Ext w ab
theorem pJ(k:Nat)(ap:k≤4)(w:World):Calls prog 161 #[.int .i64 k] w (wa w k):=by
 obtain rfl|rfl|rfl|rfl|rfl:k=0∨k=1∨k=2∨k=3∨k=4:=ad
 all_goals
  clear ap;go_enter func161,ntmps161;go_wp2
  go_ret2
  generalize bg:World.alloc (World.alloc w _) _=W;refine⟨some ⟨w.heap.size,0,none⟩,some ⟨w.heap.size+1,0,none⟩,_,by decide,rfl,Bl (t:=9) (cs:=((Es _).map Value.string).toArray) ?_ rfl rfl ?_,Bk (t:=3) (cs:=((l8 _).map (Value.int .i64)).toArray) ?_ rfl rfl ?_,?_⟩
  ·rw[←bg];exact(GO).alloc _
  ·rw[←bg];simp;omega
  ·rw[←bg];exact ag.bR _ _ _ (by simp)
  ·rw[←bg];simp
  ·rw[←bg];exact(GN.alloc _).alloc _
theorem BN(ap:k≤4)(h:op∈l8 k):cB op=k:=by
 obtain rfl|rfl|rfl|rfl|rfl:k=0∨k=1∨k=2∨k=3∨k=4:=ad
 all_goals
  simp[l8,lB] at h;unfold cB
  repeat' split
  all_goals omega
theorem z8(h:∀k:Nat,k<5→op∉l8 k):cB op=if op=3∨op=4 then 5 else 6:=by
 have h0:=h 0 ad;have ac:=h 1 ad;have J:=h 2 ad;have aS:=h 3 ad;have bo:=h 4 ad;simp[l8,lB] at h0 ac J aS bo;unfold cB;rw[if_neg ad,if_neg ad,if_neg ad,if_neg ad,if_neg ad]
theorem fy(op:Int)(w:World):Calls prog 159 #[.int .i64 op] w fun e ab=>e=.returned (.int .i64 (cB op))∧Ext w ab:=by
 go_enter func159,ntmps159;go_wp2;go_loopw [3] (fun E wr=>∃k:Nat,k≤5∧E=.int .i64 k∧(∀i:Nat,i<k→op∉l8 i)∧Ext w wr) (fun E _=>6 - (intOf E).toNat)
 case atStart=>exact⟨0,ad,rfl,fun i h=>ad,GN⟩
 case round=>
  obtain⟨k,ap,rfl,cr,O⟩:=hrel;have a4:=ae O;have bB:=ae cr;clear O cr;by_cases ao:k<5
  ·have q:decide ((k:Int)<5)=true:=by simp;omega
   go_wp2_with (fail);refine(pJ k ad _).mono ?_;rintro e aQ ⟨A,B,n,hn,rfl,hs,bi,he⟩;have cO:=ai bi he;clear hs bi he;go_wp2_with (fail)
   go_loop [6] (fun cp=>∃j:Nat,j≤n∧cp=.int .i64 j∧∀(i:Nat) (x:Int),i<j→(l8 k)[i]?=some x→x≠op) (fun cp=>n - (intOf cp).toNat)
   case atStart=>exact⟨0,ad,rfl,fun i x h=>ad⟩
   case round=>
    obtain⟨j,ba,rfl,a2⟩:=hrel;have bh:=ae a2;clear a2;by_cases G:j<n
    ·obtain⟨b,o,x,rfl,U,hx,hc⟩:=cO.1.int G;have aU:=ae hx;clear hx;by_cases v:x=op
     ·have co:(x == op)=true:=by simpa using v
      have aZ:=ae (BN (op:=op) (k:=k) ad (by rw[←v];exact Ge aU.o));clear v;go_wp2;go_ret;exact⟨ret_int aZ.symm,a4.trans cO.2⟩
     ·have co:(x == op)=false:=by simpa using v
      have X:=ae v;clear v;go_wp2
      go_round
      case rel=>exact⟨j+1,ad,by go_num,fun i y aJ a3=>by
       by_cases J:i=j
       ·subst J;rw[aU.o] at a3;injection a3 with a3;subst a3;exact X.o
       ·exact bh.o i y ad a3⟩
      case measure=>simp[intOf];omega
    ·have c:j=n:=ad;have cI:=ae (show op∉l8 k from fun hm=>by
      obtain⟨i,aJ⟩:=List.getElem?_of_mem hm;have ao:=(List.getElem?_eq_some_iff.1 aJ).1;have hl:=cO.1.1;exact bh.o i op ad aJ rfl)
     have ej:decide ((j:Int)<(n:Int))=false:=by simp;omega
     clear c;go_wp2;go_roundw
     case rel=>exact⟨k+1,ad,by go_num,fun i aJ=>by
      by_cases cL:i=k
      ·subst cL;exact cI.o
      ·exact bB.o i ad,a4.trans cO.2⟩
     case measure=>simp[intOf];omega
  ·have aE:k=5:=ad;have aZ:=ae (z8 (op:=op) (fun i aJ=>bB.o i ad));subst aE;by_cases aS:op=3∨op=4
   ·have L:=ae (aZ.trans (if_pos aS));rcases aS with rfl|rfl
    all_goals
     go_wp2;go_ret;exact⟨ret_int L.symm,a4.o⟩
   ·have L:=ae (aZ.trans (if_neg aS));have cT:(op == 3)=false:=by simp;omega
    have c7:(op == 4)=false:=by simp;omega
    clear aS;go_wp2;go_ret;exact⟨ret_int L.symm,a4.o⟩
theorem Ch(x:VE):x.aU=aU x:=by cases x<;>rfl
theorem pv(op n B:Int)(nm:ByteArray)(b o m c:Nat)(k:Nat)(w:World)(ap:k≤1)(R:k<m)(O:b<w.heap.size)(hc:w.cell? ⟨b,o+k*4,none⟩=some (.int .i64 B)) :
  Calls prog 160 #[.agg #[.int .i64 op,.int .i64 n,.string nm,.slice (some ⟨b,o,none⟩) m c],.int .i64 k] w fun e ab=>e=.returned (.bool (dk op B (k == 1)))∧Ext w ab:=by
 have cH:(0:Int)≤(k:Int):=ad;have cm:(k:Int)<(m:Int):=ad;go_enter func160,ntmps160;go_wp2;generalize bg:World.alloc _ _=W;have av:Ext w W:=bg▸GN.alloc _;obtain⟨a0,al,af⟩:=(show ag W w.heap.size 55 #[.int .i64 op,.int .i64 n,.string nm,.slice (some ⟨b,o,none⟩) m c] by rw[←bg];exact GO).two;have a2:=(av.cell (j:=o+k*4) O (fun h=>h)).trans hc;have a:b<W.heap.size:=Gc O av.size;have bh:=ae av;clear bg av hc;refine eh (fun _=>False) [(0,3),(1,0),(2,3),(3,3),(4,3),(5,0),(7,3),(8,0),(6,1),(9,2),(10,3),(11,3)] ?_;refine pf ?_;refine ph ?_
 iterate 3 refine pf ?_
 refine ph ?_;refine pf ?_;refine ph ?_;refine aA rfl (fun K hK=>?_);go_simp;refine(fy B _).mono ?_;rintro e aH ⟨rfl,ar⟩;refine hK _ _ (ar) ?_;clear hK K
 try simp only[PU]
 have bp:=ae (bh.trans (Fr.aE ar));clear ar;refine ax rfl (fun K hK=>?_);go_simp;refine(fy op _).mono ?_;rintro e aQ ⟨rfl,bE⟩;refine hK _ _ ?_;clear hK K
 try simp only[PU]
 have aW:=ae (bp.trans bE);clear bE a0 al af a2
 iterate 2 refine pf ?_
 refine aD ?_;have a4:=ae (show dk op B (k == 1)=(decide (cB B<cB op) || (cB B == cB op && k == 1)) from rfl);generalize cB B=x at *;generalize cB op=y at *;by_cases ac:x<y
 ·have aZ:=ae (show dk op B (k == 1)=true by rw[a4.o];simp[ac]);clear a4;exact pT
 have co:decide (x<y)=false:=by simpa using ac
 by_cases J:x=y
 ·have ej:(x == y)=true:=by simpa using J
  by_cases aS:k=1
  ·have aZ:=ae (show dk op B (k == 1)=true by rw[a4.o];simp[J,aS]);have cT:((k:Int) == 1)=true:=by simp;omega
   have d:(k == 1)=true:=by simp;omega
   clear a4 ac J aS;exact pT
  ·have aZ:=ae (show dk op B (k == 1)=false by rw[a4.o];simp[J,aS]);have cT:((k:Int) == 1)=false:=by simp;omega
   have d:(k == 1)=false:=by simp;omega
   clear a4 ac J aS;exact pT
 ·have ej:(x == y)=false:=by simpa using J
  have aZ:=ae (show dk op B (k == 1)=false by rw[a4.o];simp[ac,J]);clear a4 ac J;exact pT
theorem jt:b0 prog 134 9 (.string ⟨#[]⟩) 1 16:=b0.mk' Tryz.underlying134 (by kernel_rfl) rfl ad
def bL(x:VE):List UInt8:=aS (b9 x)
def fF(op:Int)(k:Nat)(y:VE):List UInt8:=aS (par (dk op (aU y) (k == 1)) (b9 y))
def fI:VE→List (List UInt8)
 | .un op x=>[fF op 0 x]
 | .bin op x y=>[fF op 0 x,fF op 1 y]
 | _=>[]
theorem ux(op:Int)(k:Nat)(y:VE):fF op k y=if dk op (aU y) (k == 1) then 40::(bL y++[41]) else bL y:=by
 unfold fF par bL;split
 ·rw[aX,a2];rfl
 ·rfl
theorem uy(op:Int)(k:Nat)(y:VE):(bL y).length≤(fF op k y).length:=by
 rw[ux];split<;>simp
 omega
theorem uW(op:Int)(x:VE):bL (.un op x)=(if op=3 then 45 else 33)::fF op 0 x:=by
 unfold bL b9 fF;rw[aX];split<;>rfl
theorem rW(op:Int)(x y:VE):bL (.bin op x y)=fF op 0 x++32::(f1 op++32::fF op 1 y):=by
 unfold bL b9 fF;rw[a2,aX,aX,aX];rfl
theorem ju(x:VE){t:List UInt8}(h:(fI x)[k]?=some t):t.length≤(bL x).length:=by
 cases x with
 | un op x=>
  rw[uW]
  match k,h with
  | 0,h=>simp[fI] at h;subst h;simp
 | bin op x y=>
  rw[rW]
  match k,h with
  | 0,h=>simp[fI] at h;subst h;simp
  | 1,h=>simp[fI] at h;subst h;simp;omega
 | num n=>simp[fI] at h
 | ga n=>simp[fI] at h
 | loc n=>simp[fI] at h
 | hR n=>simp[fI] at h
theorem kX(x:VE)(h:x.args[k]?=some y):(fI x)[k]?=some (fF x.aU k y)∧k≤1:=by
 cases x with
 | un op x=>
  match k,h with
  | 0,h=>simp[VE.args] at h;subst h;simp[fI,VE.aU]
 | bin op x y=>
  match k,h with
  | 0,h=>simp[VE.args] at h;subst h;simp[fI,VE.aU]
  | 1,h=>simp[VE.args] at h;subst h;simp[fI,VE.aU]
 | num n=>simp[VE.args] at h
 | ga n=>simp[VE.args] at h
 | loc n=>simp[VE.args] at h
 | hR n=>simp[VE.args] at h
theorem u6(x:VE):(fI x).length=x.args.length:=by cases x<;>rfl
theorem qW(x:VE):x.args.length≤2:=by cases x<;>simp[VE.args]
theorem oG{N:GS}{d:Nat}(h:x.src N (d+1))(a3:x.args[k]?=some y):y.src N d:=by
 cases x with
 | un op x=>
  match k,a3 with
  | 0,a3=>simp[VE.args] at a3;subst a3;exact h.2
 | bin op x y=>
  match k,a3 with
  | 0,a3=>simp[VE.args] at a3;subst a3;exact h.2.1
  | 1,a3=>simp[VE.args] at a3;subst a3;exact h.2.2
 | num n=>simp[VE.args] at a3
 | ga n=>simp[VE.args] at a3
 | loc n=>simp[VE.args] at a3
 | hR n=>simp[VE.args] at a3
theorem oH{N:GS}(h:x.src N 0):x.args=[]:=by
 cases x with
 | un op x=>exact h.elim
 | bin op x y=>exact h.elim
 | num n=>rfl
 | ga n=>rfl
 | loc n=>rfl
 | hR n=>rfl
theorem Cu{i:Nat}(h:5≤op∧op≤17)(aJ:(l8 (cB op).toNat)[i]?=some op):(Es (cB op).toNat)[i]?=some (strOf (f1 op)):=by
 obtain⟨ac,J⟩:=h;obtain rfl|rfl|rfl|rfl|rfl|rfl|rfl|rfl|rfl|rfl|rfl|rfl|rfl:op=5∨op=6∨op=7∨op=8∨op=9∨op=10∨op=11∨op=12∨op=13∨op=14∨op=15∨op=16∨op=17:=ad
 all_goals
  match i,aJ with
  | 0,aJ=>first|rfl|(exact absurd aJ (by decide))
  | 1,aJ=>first|rfl|(exact absurd aJ (by decide))
  | 2,aJ=>first|rfl|(exact absurd aJ (by decide))
  | 3,aJ=>first|rfl|(exact absurd aJ (by decide))
  | 4,aJ=>first|rfl|(exact absurd aJ (by decide))
  | 5,aJ=>first|rfl|(exact absurd aJ (by decide))
  | i+6,aJ=>simp[l8,lB,cB] at aJ
theorem rN(h:5≤op∧op≤17):∃k:Nat,k≤4∧cB op=k∧op∈l8 k:=by
 obtain⟨ac,J⟩:=h;obtain rfl|rfl|rfl|rfl|rfl|rfl|rfl|rfl|rfl|rfl|rfl|rfl|rfl:op=5∨op=6∨op=7∨op=8∨op=9∨op=10∨op=11∨op=12∨op=13∨op=14∨op=15∨op=16∨op=17:=ad
 all_goals first|exact⟨0,ad,rfl,by decide⟩|exact⟨1,ad,rfl,by decide⟩|exact⟨2,ad,rfl,by decide⟩|exact⟨3,ad,rfl,by decide⟩|exact⟨4,ad,rfl,by decide⟩
def we(x:VE):Prop:=∀(op n:Int) (s:ByteArray) (A:GR) (m c:Nat) (w:World),(a4 x).rep w (au w) [.int .i64 op,.int .i64 n,.string s,.slice A m c]→(bL x).length≤262144→
 Calls prog 150 #[.agg #[.int .i64 op,.int .i64 n,.string s,.slice A m c]] w fun e ab=>e=.returned (.string (strOf (bL x)))∧Ext w ab
theorem tJ{l:List (List UInt8)}{t:List UInt8}(h:l[k]?=some t):(l.take (k+1)).map (fun t=>Value.string (strOf t))=(l.take k).map (fun t=>Value.string (strOf t))++[Value.string (strOf t)]:=by
 rw[List.take_add_one,h,Gi];rfl
theorem At(l:GS):l.flatMap mO=l.map Value.string:=by
 induction l with
 | nil=>rfl
 | cons a l aa=>rw[Gx,aa];rfl
theorem vI{A:GR}{c:Nat}{l:List (List UInt8)}(h:w.ownsRow base e 1 (.slice A n c) n (l.map fun t=>Value.string (strOf t)))(hl:l.length=n):cG (EF mO) 1 w w.heap.size A n (l.map strOf):=
 lv (f:=mO) (l:=l.map strOf) (by rw[At,List.map_map];exact h) (fun _ _=>rfl) (by rw[Gf];exact hl)
structure nv(w wr:World)(x:VE)(A:GR)(m c:Nat):Prop where
 ext:Ext w wr
 blk:ag wr w.heap.size 55 #[.int .i64 x.aU,.int .i64 x.numOf,.string x.aZ,.slice A m c]
 args:Sl wr (au w) A m (x.args.map a4)
theorem nv.on{w wr ab:World}{x:VE}{A:GR}{m c:Nat}(h:nv w wr x A m c)(O:Fr (fun b=>w.heap.size<b) wr ab):nv w ab x A m c:=
 ⟨⟨O.os.trans h.ext.os,O.tape.trans h.ext.tape,O.output.trans h.ext.output,Gu h.ext.size O.size,fun k ap hn=>(O.block k (Gc ap h.ext.size) ad).trans (h.ext.block k ap hn)⟩,
  h.blk.on O ad,h.args.ao fun b ao=>O.block b (Gc ao h.ext.size) (by have:b<w.heap.size:=ao;omega)⟩
theorem D6{sz:Nat}{v:Value}{xs:List Value}(I:w.ownsRow base e sz v n xs)(aM:w.grownBy ab v.ownBlock)(O:∀g,base≤g→M g):Fr M w ab:=
 (Fr.refl M w).grown aM fun k ap=>.inl (O k (I.lt k ap).1)
theorem Ext.fr(h:Ext w ab):Fr M w ab:=h.mono fun _ h=>h.elim
namespace yn
theorem nA(h:p:=by
 have L:m≤2:=by rw[←hs.1,Gf];exact qW x
 have aC:(fI x).length=m:=by rw[u6,←hs.1,Gf]
 have bO:=ae aC;have a8:=ae hs;have cW:=ae aa;have aU:=ae hx;have l:=ae hlen;clear aX hs aa hx hlen aC;go_enter func150,ntmps150;go_wp2;generalize bg:World.alloc _ _=W;have aR:nv w W x A m c:=by
  have av:Ext w W:=bg▸GN.alloc _;exact⟨av,by rw[←bg];exact GO,a8.ao fun b ao=>av.block b ao (fun h=>h)⟩
 have P:=ae aR;clear bg aR;go_loopw [3,4] (fun sv E wr=>∃k:Nat,k≤m∧E=.int .i64 k∧nv w wr x A m c∧wr.ownsRow (w.heap.size+1) 9 1 sv k (((fI x).take k).map fun t=>Value.string (strOf t))) (fun _ E _=>m - (intOf E).toNat)
 case atStart=>exact⟨0,ad,rfl,P.o,by simp,.inl ⟨rfl,rfl⟩⟩
 case round=>
  obtain⟨k,ap,rfl,aR,I⟩:=hrel;clear P;obtain⟨bI,bq,rfl,dY,_,_,_⟩:=bT I;have P:=ae aR;have cO:=ae I;obtain⟨a0,al,af⟩:=aR.blk.two;clear aR I;by_cases ao:k<m
  ·obtain⟨b,o,y,cs,rfl,O,a3,Q,a1,Z⟩:=P.args.fJ cS ao
   match cs,a1 with
   | [b8,b2,bu,bA],_=>
   have c0:=Z 0 b8 rfl;have c1:=Z 1 b2 rfl;have c2:=Z 2 bu rfl;have c3:=Z 3 bA rfl;simp only[Gl] at c0;have aN:b<wr.heap.size:=Gc O P.ext.size;clear Z O;obtain⟨B,bR,bc,e,cP,cf⟩:=aV.1 Q;simp only[List.cons.injEq,and_true] at e;obtain⟨rfl,rfl,rfl,rfl⟩:=e;have bM:=ae a3;have F:=ae (D.aP (c8:=au wr) (fun b ao=>Gc ao P.ext.size) _ _ Q);clear a3 Q cf;go_wp2_with (fail);refine(cW.o k y bM.o _ _ _ _ _ _ wr F.o ?_).mono ?_
   ·exact Gu (uy x.aU k y) (Gu (ju x (kX x bM.o).1) l.o)
   rintro e aH ⟨rfl,ar⟩;have bF:=(kX x bM.o).2;have cb:=ae (P.on ar.fr);have a6:=(ar.cell (j:=o+k*4) aN (fun h=>h)).trans c0;have bQ:b<aH.heap.size:=Gc aN ar.size;have aj:=ae (cn cO.o (Fr.ext ar));clear P cO a0 al af c0 c1 c2 c3 ar aN;obtain⟨a0,al,af⟩:=cb.blk.two;go_wp2_with (fail);refine(pv x.aU x.numOf y.aU x.aZ b o m c k aH bF ao bQ a6).mono ?_;rintro e aQ ⟨rfl,bE⟩;have q:=ae (cb.on bE.fr);have a5:=ae (cn aj.o (Fr.ext bE));clear cb aj a0 al af a6 bQ bE;obtain⟨a0,al,af⟩:=q.blk.two;have HA:=ae (ux x.aU k y);have S:=ae (kX x bM.o).1;have bv:(strOf (bL y)).size≤262144:=by
    rw[aI];exact Gu (uy x.aU k y) (Gu (ju x (kX x bM.o).1) l.o)
   rw[←Ch] at *;have cf:w.heap.size+1≤aQ.heap.size:=q.blk.lt;by_cases aJ:dk x.aU y.aU (k == 1)=true
   ·rw[aJ];have aL:=ae (show (⟨#[40]⟩:ByteArray)++strOf (bL y)++⟨#[41]⟩=strOf (fF x.aU k y) by
     rw[HA.o,if_pos aJ,show (⟨#[40]⟩:ByteArray)=strOf [40] from rfl,show (⟨#[41]⟩:ByteArray)=strOf [41] from rfl,ah,ah];simp)
    clear aJ HA;exact C9
   ·have C:dk x.aU y.aU (k == 1)=false:=by simpa using aJ
    rw[C];have aL:=ae (show strOf (bL y)=strOf (fF x.aU k y) by rw[HA.o,if_neg aJ]);clear aJ C HA;exact C9
  ·have R:k=m:=ad;subst R;have aZ:=ae (vI (by
    have:=cO.o;rw[←bO.o,List.take_length] at this;rw[←bO.o];exact this) bO.o)
   have bh:=ae P.ext;clear cO cW;have dN:decide ((k:Int)<(k:Int))=false:=by simp
   cases x with
   | num n=>
    have hn:0≤n∧n<4611686018427387904:=by have:=aU.o;cases d<;>exact this
    have bB:=ae (show ks n=bL (.num n) by rw[r2 hn.1];simp[bL,b9,aS,Atom.bytes]);have O:=kK n wr ad;simp only[VE.aU,VE.numOf,VE.aZ] at *;clear dN;go_wp2_with (fail);refine O.mono ?_;rintro e aH ⟨rfl,ar⟩;have bp:=ae (bh.trans (Fr.of ar));clear ar O;go_wp2;go_ret
    exact⟨ret_str (by rw[bB.o]),bp.o⟩
   | ga s=>
    simp only[VE.aU,VE.numOf,VE.aZ] at *;have bB:=ae (show s=strOf (bL (.ga s)) by simp[bL,b9,aS,Atom.bytes,strOf]);go_wp2;go_ret
    exact⟨ret_str bB.o,bh.o⟩
   | loc j=>exact(by have:=aU.o;cases d<;>exact this:False).elim
   | hR j=>exact(by have:=aU.o;cases d<;>exact this:False).elim
   | un op y=>
    obtain rfl:k=1:=bO.symm;obtain⟨b,o,z,rfl,O,bv,hc⟩:=aZ.str (k:=0) ad;have U:strOf (fF op 0 y)=z:=by simpa [fI] using bv
    subst U;have bN:(strOf (fF op 0 y)).size≤262144:=by
     rw[aI];exact Gu (ju (.un op y) (k:=0) rfl) l.o
    have ct:op=3∨op=4:=by
     cases d with
     | zero=>exact aU.elim
     | succ d=>exact aU.1
    have q:=ae (uW op y);simp only[Gl] at hc;clear bv aU P l bO L bS dN af dY;rcases ct with rfl|rfl
    ·have bB:=ae (show (⟨#[45]⟩:ByteArray)++strOf (fF 3 0 y)=strOf (bL (.un 3 y)) by rw[q.o,if_pos rfl];exact ah [45] _);clear q;generalize fF 3 0 y=t at *;exact wA
    ·have bB:=ae (show (⟨#[33]⟩:ByteArray)++strOf (fF 4 0 y)=strOf (bL (.un 4 y)) by rw[q.o,if_neg ad];exact ah [33] _);clear q;generalize fF 4 0 y=t at *
     exact wA
   | bin op y z=>
    obtain rfl:k=2:=bO.symm;obtain⟨b,o,ax,rfl,O,ac,M⟩:=aZ.str (k:=0) ad;obtain⟨K,V,cc,e,_,da,bn⟩:=aZ.str (k:=1) ad;simp only[GI,Addr.mk.injEq,and_true] at e;obtain⟨rfl,rfl⟩:=e;have U:strOf (fF op 0 y)=ax:=by simpa [fI] using ac
    have ak:strOf (fF op 1 z)=cc:=by simpa [fI] using da
    subst U ak;have aB:(strOf (fF op 0 y)).size≤262144:=by
     rw[aI];exact Gu (ju (.bin op y z) (k:=0) rfl) l.o
    have hL:(strOf (fF op 1 z)).size≤262144:=by
     rw[aI];exact Gu (ju (.bin op y z) (k:=1) rfl) l.o
    have ct:5≤op∧op≤17:=by
     cases d with
     | zero=>exact aU.elim
     | succ d=>exact aU.1
    have bB:=ae (show ((strOf (fF op 0 y)++⟨#[32]⟩)++strOf (f1 op))++⟨#[32]⟩++strOf (fF op 1 z)=strOf (bL (.bin op y z)) by
     rw[rW,show (⟨#[32]⟩:ByteArray)=strOf [32] from rfl,ah,ah,ah,ah];simp)
    have b7:(strOf (f1 op)).size≤2:=by
     rw[aI];unfold f1
     repeat' split
     all_goals simp
    have dS:(op == 1)=false:=by simp;omega
    have di:(op == 2)=false:=by simp;omega
    have br:(op == 3)=false:=by simp;omega
    have aO:(op == 4)=false:=by simp;omega
    obtain⟨cr,bl,Y,b0⟩:=rN ct;have aq:=ae (fun(i:Nat)=>Cu (i:=i) ct);have ab:=ae b0;have cm:=ae Y;simp only[Gl] at M;clear ac da aU l bO L bS dN af dY aZ b0 ct;generalize strOf (fF op 0 y)=t0 at *;generalize strOf (fF op 1 z)=dc at *;generalize strOf (f1 op)=sg at *;simp only[VE.aU,VE.numOf,VE.aZ] at *;go_wp2_with (fail);refine(fy op wr).mono ?_;rintro e aH ⟨rfl,ar⟩;rw[Y];go_wp2_with (fail);refine(pJ cr bl aH).mono ?_;rintro e aQ ⟨bI,aK,n,hn,rfl,hs,bi,bE⟩;have u:=ar.trans bE;have aW:=ae (bh.trans u);have e0:=(u.cell (j:=o) O (fun h=>h)).trans M;have e1:=(u.cell (j:=o+1) O (fun h=>h)).trans bn;have bt:b<aQ.heap.size:=Gc O u.size;have q:=ae (P.on (Ext.fr u));obtain⟨a7,am,aE⟩:=q.blk.two;simp only[VE.aU,VE.numOf,VE.aZ] at a7;have cO:=ai hs bi;clear hs bi ar bE u M bn O a0 al P bh Y;go_wp2_with (fail);go_loopw [8] (fun cp wr=>∃j:Nat,j≤n∧cp=.int .i64 j∧(∀(i:Nat) (x:Int),i<j→(l8 cr)[i]?=some x→x≠op)∧Ext aQ wr) (fun cp _=>n - (intOf cp).toNat)
    case atStart=>exact⟨0,ad,rfl,fun i x h=>ad,GN⟩
    case round=>
     obtain⟨j,ba,rfl,a2,bW⟩:=hrel;have bm:=ae a2;have b6:=ae bW;obtain⟨v0,an⟩:=Fr.oK bW;clear a2 bW;by_cases G:j<n
     ·obtain⟨c1,aD,x,rfl,ck,hx,aw⟩:=cO.2.int G;obtain⟨c2,aF,eT,rfl,aA,cQ,T⟩:=cO.1.str G;have aU:=ae hx;by_cases v:x=op
      ·subst v;have H:=aq.o j (by rw[cm.o];exact hx);rw[cm.o,Gy,cQ] at H;injection H with H;subst H;clear hx cQ;go_wp2;go_quiet (fail)
       go_wp2;go_quiet (fail)
       go_wp2;go_ret;exact⟨ret_str bB.o,aW.trans ((b6.drewN _).drewN _)⟩
      ·have co:(x == op)=false:=by simpa using v
       have X:=ae v;clear v hx cQ;go_wp2;go_quiet (fail)
       go_wp2
       go_round
       case rel=>refine⟨j+1,ad,by go_num,fun i y aJ a3=>?_,?_⟩;rotate_left;exact b6.drewN _;exact(by
        by_cases J:i=j
        ·subst J;rw[aU.o] at a3;injection a3 with a3;subst a3;exact X.o
        ·exact bm.o i y ad a3)
       case measure=>simp[intOf];omega
     ·exfalso;obtain⟨i,aJ⟩:=List.getElem?_of_mem ab.o;have ao:=(List.getElem?_eq_some_iff.1 aJ).1;have hl:=cO.2.1;exact bm.o i op ad aJ rfl
 ):p:=h
end yn
open yn in
theorem pL(N:GS)(d:Nat)(x:VE)(hx:x.src N d)(aa:∀(k:Nat) (y:VE),x.args[k]?=some y→we y):we x:=by
 intro op n s A m c w aX hlen;exact nz
theorem iJ(N:GS):∀(d:Nat) (x:VE),x.src N d→we x
 | 0,x,h=>pL N 0 x h fun k y a3=>by rw[oH h] at a3;simp at a3
 | d+1,x,h=>pL N (d+1) x h fun k y a3=>iJ N d y (oG h a3)
def fb(r:d2):List UInt8:=aS (hh r)
theorem tK(h:r.idx=none):fb r=r.name.data.toList:=by
 unfold fb hh;rw[h];simp[aS,Atom.bytes]
theorem tL{e:VE}(h:r.idx=some e):fb r=r.name.data.toList++91::(bL e++[93]):=by
 unfold fb hh bL;rw[h];simp[aS,Atom.bytes]
theorem iz:(jB r).rep w P cs↔∃A n c,cs=[.string r.name,.slice A n c]∧n≤c∧Sl w P A n (r.idx.toList.map a4):=by
 unfold jB;rw[bw,ca];constructor
 ·rintro⟨y,rfl,h⟩;obtain⟨A,n,c,bA,rfl,hc,hs,aS⟩:=aJ.1 h;exact uo
 ·rintro⟨A,n,c,rfl,hc,hs⟩;exact r9
def Bn(r:d2):Prop:=∀e,r.idx=some e→∃N d,e.src N d
theorem cM(s:ByteArray):strOf s.data.toList=s:=by simp[strOf]
namespace yo
theorem wQ(h:p:=by
 refine pf ?_;refine aD ?_;go_wp2;go_ret;exact⟨ret_str bB.o,bh.trans (Fr.aE ar)⟩
 ):p:=h
end yo
open yo in
theorem jI(r:d2)(aC:Bn r)(s:ByteArray)(A:GR)(n c:Nat)(w:World)(aX:(jB r).rep w (au w) [.string s,.slice A n c])(hlen:(fb r).length≤262144) :
  Calls prog 152 #[.agg #[.string s,.slice A n c]] w fun e ab=>e=.returned (.string (strOf (fb r)))∧Ext w ab:=by
 obtain⟨az,L,aG,e,aL,hs⟩:=iz.1 aX;simp only[List.cons.injEq,Value.string.injEq,Value.slice.injEq,and_true] at e;obtain⟨rfl,rfl,rfl,rfl⟩:=e
 cases aJ:r.idx with
 | none=>
  rw[aJ] at hs;obtain rfl:n=0:=hs.1.symm;have bB:=ae (show r.name=strOf (fb r) by rw[tK aJ,cM]);clear aJ hs aX hlen aC;go_enter func152,ntmps152;go_wp2;go_ret
  exact⟨ret_str bB.o,GN.alloc _⟩
 | some x=>
  rw[aJ] at hs;obtain rfl:n=1:=hs.1.symm;obtain⟨N,d,hx⟩:=aC x aJ;obtain⟨b,o,bD,Z,ay,E,rfl,O,F,c0,c1,c2,c3⟩:=Sl.AV hs (cS x);obtain⟨B,bR,bc,e,cP,cf⟩:=aV.1 F;simp only[List.cons.injEq,and_true] at e;obtain⟨rfl,rfl,rfl,rfl⟩:=e;have aN:b<w.heap.size:=O;have P:=ae (tL aJ);have ac:r.name.size≤262144:=by
   have:=hlen;rw[P.o,Gd] at this;have J:r.name.size=r.name.data.toList.length:=rfl;omega
  have da:(bL x).length≤262144:=by
   have:=hlen;rw[P.o,Gd] at this;simp at this;omega
  have bB:=ae (show r.name++⟨#[91]⟩++strOf (bL x)++⟨#[93]⟩=strOf (fb r) by
   rw[P.o,show (⟨#[91]⟩:ByteArray)=strOf [91] from rfl,show (⟨#[93]⟩:ByteArray)=strOf [93] from rfl];conv=>lhs;rw[←cM r.name]
   rw[ah,ah,ah];simp)
  have bf:=ae da;have c6:(strOf (bL x)).size≤262144:=by rw[aI];exact da
  have aU:=ae (iJ N d x hx);have ao:=ae F;clear aJ hs aX hlen aC P F cf O da hx;go_enter func152,ntmps152;go_wp2;generalize bg:World.alloc _ _=W;have av:Ext w W:=bg▸GN.alloc _;obtain⟨a0,al,af⟩:=(show ag W w.heap.size 172 #[.string r.name,.slice (some ⟨b,o,none⟩) 1 c] by rw[←bg];exact GO).two;have a6:=(av.cell (j:=o) aN (fun h=>h)).trans c0;have ca:=(av.cell (j:=o+1) aN (fun h=>h)).trans c1;have aP:=(av.cell (j:=o+2) aN (fun h=>h)).trans c2;have cx:=(av.cell (j:=o+3) aN (fun h=>h)).trans c3;have a:b<W.heap.size:=Gc aN av.size;have bh:=ae av;clear bg av c0 c1 c2 c3 aN;refine eh (fun _=>False) [(0,3),(1,0),(2,3),(3,3),(4,0),(5,3),(6,0),(7,1),(8,3),(9,3),(10,3)] ?_;refine pf ?_;refine ph ?_;refine bj (v:=?_) rfl (by rfl) (fun V=>?_) ?_;rotate_left
  ·go_simp;exact dL
  try simp only[PU]
  refine pf ?_;refine ph ?_;refine pf ?_;refine ph ?_;refine aA rfl (fun K hK=>?_);go_simp;refine(aU.o _ _ _ _ _ _ _ (D.on ao.o (Fr.ext bh.drew)) bf.o).mono ?_;rintro e aH ⟨rfl,ar⟩;refine hK _ _ (ar) ?_;clear hK K;exact wP
def mD(a:cQ):List UInt8:=aS (eO a)
def ia(l:List cQ):List UInt8:=40::aS (dH (l.map eO))
def gI(l:List cQ):List UInt8:=aS (hQ l)
theorem pK(l:List cQ):gI l=ia l++[41]:=by
 unfold gI hQ ia;rw[aX,a2];rfl
theorem kH:∀(l:List (List Atom)) (a:List Atom),dH (l++[a])=if l=[] then a else dH l++(.sg [44]::.ws 32::a)
 | [],a=>rfl
 | [b],a=>by simp[dH]
 | b::d::l,a=>by
  have aa:=kH (d::l) a;rw[if_neg (by simp)] at aa;rw[if_neg (by simp)];show dH (b::d::(l++[a]))=_
  simp only[dH];rw[Gs] at aa;rw[aa];simp
theorem o4{aO:List cQ}{a:cQ}(h:aO[k]?=some a):ia (aO.take (k+1))=ia (aO.take k)++((if 0<k then [44,32] else [])++mD a):=by
 have ap:k<aO.length:=(List.getElem?_eq_some_iff.1 h).1;unfold ia mD;rw[List.take_add_one,h,Gi];show (40:UInt8)::aS (dH (List.map eO (List.take k aO)++[eO a]))=_
 rw[kH];by_cases h0:0<k
 ·rw[if_neg (by intro e;have:=congrArg List.length e;simp only[Gf,List.length_take,Gw] at this;omega),if_pos h0,a2,aX,aX];simp[Atom.bytes]
 ·obtain rfl:k=0:=ad;simp[dH,aS]
theorem u4(aO:List cQ)(k:Nat):(ia (aO.take k)).length≤(ia (aO.take (k+1))).length:=by
 cases h:aO[k]? with
 | none=>rw[Gj (i:=k+1) (by have:=List.getElem?_eq_none_iff.1 h;omega),Gj (List.getElem?_eq_none_iff.1 h)];exact Gb _
 | some a=>rw[o4 h];simp
theorem uq(aO:List cQ):∀j k:Nat,(ia (aO.take k)).length≤(ia (aO.take (k+j))).length
 | 0,k=>Gb _
 | j+1,k=>Gu (uq aO j k) (u4 aO (k+j))
theorem qV(aO:List cQ)(ap:k≤aO.length):(ia (aO.take k)).length≤(gI aO).length:=by
 have:=uq aO (aO.length - k) k;rw[show k+(aO.length - k)=aO.length by omega,List.take_length] at this;rw[pK];simp;omega
def Cv:cQ→Prop
 | .mx r=>Bn r
 | .ex e=>∃N d,e.src N d
theorem mZ(a:cQ):(fQ a).sz=7:=by
 cases a with
 | mx r=>rfl
 | ex e=>show D.vM [.b false,ff,a4 e]=7;simp only[D.vM,cS,D.sz,ff]
theorem dJ{d:D}{l:List D}:D.aL w P (d::l) cs↔∃x y,cs=x++y∧d.rep w P x∧D.aL w P l y:=by simp only[D.aL]
theorem BZ(h:(fQ (.mx r)).rep w P cs):∃s A n c e0 e1 e2 e3,cs=[.bool true,.string s,.slice A n c,e0,e1,e2,e3]∧(jB r).rep w P [.string s,.slice A n c]:=by
 unfold fQ at h;rw[bw,eE] at h;obtain⟨y,rfl,h⟩:=h;obtain⟨x,bu,rfl,hx,a3⟩:=dJ.1 h;obtain⟨A,n,c,rfl,hc,hs⟩:=iz.1 hx;rw[D.bH] at a3;obtain⟨A2,c2,rfl⟩:=eA.1 a3;exact⟨_,A,n,c,_,_,_,_,rfl,hx⟩
namespace yp
theorem sB(h:p:=by
 obtain⟨A,n,c,aR,rfl,_,_,bv⟩:=aJ.1 hx;rw[aM] at bv;subst bv;exact wm
 ):p:=h
end yp
open yp in
theorem BY{e:VE}(h:(fQ (.ex e)).rep w P cs):∃bx fg op n s A m c,cs=[.bool false,bx,fg,.int .i64 op,.int .i64 n,.string s,.slice A m c]∧(a4 e).rep w P [.int .i64 op,.int .i64 n,.string s,.slice A m c]:=by
 exact sA
theorem p2(aO:List cQ)(aC:∀a∈aO,Cv a)(A:GR)(n c:Nat)(w:World)(hs:Sl w (au w) A n (aO.map fQ))(hlen:(gI aO).length≤262144)(hn:n≤1000) :
  Calls prog 151 #[.slice A n c] w fun e ab=>e=.returned (.string (strOf (gI aO)))∧Ext w ab:=by
 have hl:aO.length=n:=by rw[←hs.1,Gf]
 have b0:=ae hl;have a8:=ae hs;have y:=ae aC;have l:=ae hlen;clear hs aC hlen hl;go_enter func151,ntmps151;go_wp2;go_loopw [3,4] (fun sv E wr=>∃k:Nat,k≤n∧E=.int .i64 k∧sv=.string (strOf (ia (aO.take k)))∧Ext w wr) (fun _ E _=>n - (intOf E).toNat)
 case atStart=>exact⟨0,ad,rfl,rfl,GN⟩
 case round=>
  obtain⟨k,ap,rfl,rfl,av⟩:=hrel;have bh:=ae av;clear av;have bv:(strOf (ia (aO.take k))).size≤262144:=by
   rw[aI];exact Gu (qV aO (by rw[b0.o];exact ap)) l.o
  by_cases ao:k<n
  ·obtain⟨b,o,a,cs,rfl,O,aV,T,a1,Z⟩:=(a8.on (Fr.ext bh.o)).fJ mZ ao;have aN:b<wr.heap.size:=O;have HA:=ae aV;have i:=ae (o4 aV);have aZ:=ae (y.o a (Ge aV));have ba:(mD a).length≤262144:=by
    have ac:=qV aO (k:=k+1) (by rw[b0.o];exact ao);rw[i.o] at ac;have J:=l.o;simp at ac;omega
   have f:=ae ba;have c6:(strOf (mD a)).size≤262144:=by rw[aI];exact ba
   clear aV ba O
   cases a with
   | mx r=>
    obtain⟨s,bH,cm,rc,e0,e1,e2,e3,rfl,H⟩:=BZ T;have c0:=Z 0 _ rfl;have c1:=Z 1 _ rfl;have c2:=Z 2 _ rfl;simp only[Gl] at c0;have U:=ae H;clear Z T H;have u:=ae (show mD (.mx r)=[109,117,116,101,120,32]++fb r by
     unfold mD eO fb;rw[aX,aX];simp[kw,e4,Atom.bytes])
    have t:(fb r).length≤262144:=by
     have:=f.o;rw[u.o] at this;simp at this;omega
    have j:=ae t;have m:(strOf (fb r)).size≤262144:=by rw[aI];exact t
    clear t;by_cases h0:0<k
    ·
     have q:decide ((k:Int) > 0)=true:=by simp;omega
     have aL:=ae (show strOf (ia (aO.take k))++⟨#[44,32]⟩++⟨#[109,117,116,101,120,32]⟩++strOf (fb r)=strOf (ia (aO.take (k+1))) by
      rw[i.o,if_pos h0,u.o,show (⟨#[44,32]⟩:ByteArray)=strOf [44,32] from rfl,show (⟨#[109,117,116,101,120,32]⟩:ByteArray)=strOf [109,117,116,101,120,32] from rfl,ah,ah,ah]
      try simp)
     go_wp2_with (fail);refine(jI r aZ.o s bH cm rc wr U.o j.o).mono ?_;rintro e aH ⟨rfl,ar⟩;have bp:=ae (bh.trans ar);clear ar c0 c1 c2 bh;exact ue
    ·
     have q:decide ((k:Int) > 0)=false:=by simp;omega
     have aL:=ae (show strOf (ia (aO.take k))++⟨#[109,117,116,101,120,32]⟩++strOf (fb r)=strOf (ia (aO.take (k+1))) by
      rw[i.o,if_neg h0,u.o,show (⟨#[109,117,116,101,120,32]⟩:ByteArray)=strOf [109,117,116,101,120,32] from rfl,ah,ah]
      try simp)
     go_wp2_with (fail);refine(jI r aZ.o s bH cm rc wr U.o j.o).mono ?_;rintro e aH ⟨rfl,ar⟩;have bp:=ae (bh.trans ar);clear ar c0 c1 c2 bh
     exact ue
   | ex x=>
    obtain⟨bx,fg,op,aF,s,EA,em,ec,rfl,g⟩:=BY T;have c0:=Z 0 _ rfl;have c1:=Z 3 _ rfl;have c2:=Z 4 _ rfl;have c3:=Z 5 _ rfl;have z:=Z 6 _ rfl;simp only[Gl] at c0;have v:=ae g;have m:(strOf (bL x)).size≤262144:=c6;obtain⟨N,d,hx⟩:=aZ.o;have aU:=ae (iJ N d x hx);clear Z T g hx aZ;by_cases h0:0<k
    ·
     have q:decide ((k:Int) > 0)=true:=by simp;omega
     have aL:=ae (show strOf (ia (aO.take k))++⟨#[44,32]⟩++strOf (bL x)=strOf (ia (aO.take (k+1))) by
      rw[i.o,show mD (.ex x)=bL x from rfl,if_pos h0,show (⟨#[44,32]⟩:ByteArray)=strOf [44,32] from rfl,ah,ah]
      try simp)
     go_wp2_with (fail);refine(aU.o op aF s EA em ec wr v.o f.o).mono ?_;rintro e aH ⟨rfl,ar⟩;have bp:=ae (bh.trans ar);clear ar c0 c1 c2 c3 z bh;exact ue
    ·
     have q:decide ((k:Int) > 0)=false:=by simp;omega
     have aL:=ae (show strOf (ia (aO.take k))++strOf (bL x)=strOf (ia (aO.take (k+1))) by
      rw[i.o,show mD (.ex x)=bL x from rfl,if_neg h0,ah]
      try simp)
     go_wp2_with (fail);refine(aU.o op aF s EA em ec wr v.o f.o).mono ?_;rintro e aH ⟨rfl,ar⟩;have bp:=ae (bh.trans ar);clear ar c0 c1 c2 c3 z bh;exact ue
  ·obtain rfl:k=n:=ad;have aL:=ae (show strOf (ia (aO.take k))++⟨#[41]⟩=strOf (gI aO) by
    rw[pK,←b0.o,List.take_length,←ah];rfl)
   go_wp2;go_ret;exact⟨ret_str aL.o,bh.o⟩
inductive ay where
 | set (v:Bool) (n:ByteArray) (e:VE)
 | call (g:Bool) (n:ByteArray) (aO:List cQ)
 | lock (u:Bool) (r:d2)
 | ite (e:VE) (th el:aj)
 | fj (e:VE) (th:aj)
 | ret
def aj.list:aj→List ay
 | .nil=>[]
 | .set v n e rest=>.set v n e::rest.list
 | .call g n aO rest=>.call g n aO::rest.list
 | .lock u r rest=>.lock u r::rest.list
 | .ite e th el rest=>.ite e th el::rest.list
 | .fj e th rest=>.fj e th::rest.list
 | .ret rest=>.ret::rest.list
def aW:ay→D
 | .set v n e=>fL (if v then 1 else 2) n (a4 e) ff [] [] []
 | .call g n aO=>fL (if g then 4 else 3) n iO ff (aO.map fQ) [] []
 | .lock u r=>fL (if u then 6 else 5) ⟨#[]⟩ iO (jB r) [] [] []
 | .ite e th el=>fL 7 ⟨#[]⟩ (a4 e) ff [] (cL th) (cL el)
 | .fj e th=>fL 8 ⟨#[]⟩ (a4 e) ff [] (cL th) []
 | .ret=>fL 9 ⟨#[]⟩ iO ff [] [] []
theorem cq:∀b:aj,cL b=b.list.map aW
 | .nil=>rfl
 | .set v n e rest=>by simp only[cL,aj.list,Gh,aW,cq rest]
 | .call g n aO rest=>by simp only[cL,aj.list,Gh,aW,cq rest]
 | .lock u r rest=>by simp only[cL,aj.list,Gh,aW,cq rest]
 | .ite e th el rest=>by simp only[cL,aj.list,Gh,aW,cq rest]
 | .fj e th rest=>by simp only[cL,aj.list,Gh,aW,cq rest]
 | .ret rest=>by simp only[cL,aj.list,Gh,aW,cq rest]
def dc(t:Nat):ay→List UInt8
 | .set v n e=>List.replicate t 9++((if v then [118,97,114,32] else [])++(n.data.toList++([32,61,32]++(bL e++[59,10]))))
 | .call g n aO=>List.replicate t 9++((if g then [103,111,32] else [])++(n.data.toList++(gI aO++[59,10])))
 | .lock u r=>List.replicate t 9++((if u then [117,110,108,111,99,107,32] else [108,111,99,107,32])++(fb r++[59,10]))
 | .ite e th el=>List.replicate t 9++([105,102,32]++(bL e++([32,123,10]++(aS (aT (t+1) th)++(List.replicate t 9++([125] ++
   ((if el.isNil then [] else [32,101,108,115,101,32,123,10]++(aS (aT (t+1) el)++(List.replicate t 9++[125])))++[10])))))))
 | .fj e th=>List.replicate t 9++([119,104,105,108,101,32]++(bL e++([32,123,10]++(aS (aT (t+1) th)++(List.replicate t 9++[125,10])))))
 | .ret=>List.replicate t 9++[114,101,116,117,114,110,59,10]
def cm(t:Nat)(b:aj):List UInt8:=aS (aT t b)
theorem eR(t:Nat):aS (eJ t)=List.replicate t 9:=by
 induction t with
 | zero=>rfl
 | succ t aa=>unfold eJ at *;rw[List.replicate_succ,aX,aa];rfl
theorem o9:aS []=[]:=rfl
theorem ek(t:Nat):∀b:aj,cm t b=(b.list.map (dc t)).flatten
 | .nil=>rfl
 | .set v n e rest=>by
  have aa:=ek t rest;unfold cm at *;simp only[aT,aj.list,Gh,List.flatten_cons,←aa,dc,a2,aX,eR,bL]
  cases v<;>simp[Atom.bytes,kw,aS]
 | .call g n aO rest=>by
  have aa:=ek t rest;unfold cm at *;simp only[aT,aj.list,Gh,List.flatten_cons,←aa,dc,a2,aX,eR,gI]
  cases g<;>simp[Atom.bytes,kw,aS]
 | .lock u r rest=>by
  have aa:=ek t rest;unfold cm at *;simp only[aT,aj.list,Gh,List.flatten_cons,←aa,dc,a2,aX,eR,fb]
  cases u<;>simp[Atom.bytes,kw,aS]
 | .ite e th el rest=>by
  have aa:=ek t rest;unfold cm at *;simp only[aT,aj.list,Gh,List.flatten_cons,←aa,dc,a2,aX,eR,bL];cases hn:el.isNil
  ·simp only[GL,if_false,a2,aX,eR];simp[Atom.bytes,kw,o9]
  ·simp only[if_true]
   simp[Atom.bytes,kw,o9]
 | .fj e th rest=>by
  have aa:=ek t rest;unfold cm at *;simp only[aT,aj.list,Gh,List.flatten_cons,←aa,dc,a2,aX,eR,bL]
  simp[Atom.bytes,kw]
 | .ret rest=>by
  have aa:=ek t rest;unfold cm at *;simp only[aT,aj.list,Gh,List.flatten_cons,←aa,dc,a2,aX,eR];simp[Atom.bytes,kw]
end Go.Proofs.YtjhgbdckgkppnaaGreat
