/- Part 10 of the proof. No condition of its own. -/
import Derived.Test.YtnhhdaggkiomoaaGreatQ09
namespace Go.Proofs.YtnhhdaggkiomoaaGreat
open Go.RowKit Go.Proofs.Tryz
set_option maxRecDepth 1000000
set_option maxHeartbeats 25600000
set_option linter.unusedVariables false
variable{op:Int}{l:List UInt8}{cs:List Value}{B N base g k m n:Nat}{M P:Nat→Prop}{p:Prop}{e t:TypeId}{x y:VE}{ab w:World}{r:eO}
def byteOf(v:Int):UInt8:=UInt8.ofNat v.toNat
theorem kP(W:World)(v:Int):(convert 136 9 (.slice (some ⟨W.heap.size,0,none⟩) 1 1)).run prog (W.alloc (.cells #[.int .u8 v] 5))=.ok (.string (strOf [byteOf v])) (W.alloc (.cells #[.int .u8 v] 5)):=by
 have:=run_convert_bytes_arg (P:=prog) (W.alloc (.cells #[.int .u8 v] 5)) 136 5 Tryz.underlying136 Tryz.underlying5 W.heap.size 0 1 1 [v] rfl (fun i an=>by
  have:i=0:=ad;subst this;rw[(aq.new W 5 #[.int .u8 v]).cell];rfl) 9 Tryz.underlying9
 rw[this];rfl
theorem aO(l:List UInt8):(strOf l).size=l.length:=by simp[strOf,ByteArray.size]
theorem pB(m:Nat):byteOf (48+((m:Int) % 10))=UInt8.ofNat (48+m % 10):=by
 unfold byteOf;congr 1
theorem ret_str{a b:ByteArray}(h:a=b):Ending.returned (.string a)=.returned (.string b):=by rw[h]
theorem ah(a b:List UInt8):strOf a++strOf b=strOf (a++b):=by
 unfold strOf;rw[ByteArray.ext_iff];simp
def jb(N m:Nat)(l:List UInt8):Prop:=jr N=(if m=0 then [] else jr m)++l
theorem rn(N:Nat):jb N (N / 10) [UInt8.ofNat (48+N % 10)]:=by
 unfold jb;rw[jr];split
 ·rename_i h;rw[if_pos ad,show N % 10=N by omega];rfl
 ·rw[if_neg ad]
theorem Ds(h:jb N m l)(hm:0<m):jb N (m / 10) (UInt8.ofNat (48+m % 10)::l):=by
 unfold jb at *;rw[if_neg ad] at h;rw[h];have:=rn m;unfold jb at this;rw[this];simp
theorem E5(h:jb N m l)(hN:N≤9223372036854775808):l.length≤20:=by
 have:=js 19 N ad;unfold jb at h;rw[h,KI] at this;omega
theorem pE(N:Nat)(w:World)(hN:N≤9223372036854775808) :
  Calls prog 156 #[.int .u64 N] w fun e ab=>e=.returned (.string (strOf (jr N)))∧Below w.heap.size w ab:=by
 have kc:=kP w;go_enter func156,ntmps156;go_wp2;go_loopw [0,3] (fun a sv wr=>∃(m:Nat) (l:List UInt8),a=.int .u64 m∧sv=.string (strOf l)∧m≤N∧jb N m l∧Below w.heap.size w wr) (fun a _ _=>(intOf a).toNat)
 case atStart=>exact⟨N / 10,[byteOf (48+(N:Int) % 10)],by simp,rfl,ad,by rw[pB];exact rn N,(Below.refl _ _).alloc (KG _) _⟩
 case round=>
  obtain⟨m,l,rfl,rfl,hm,a5,O⟩:=hrel;obtain⟨aW,b2⟩:=aI a5 O;have hl:=E5 a5 hN;clear a5 O kc;have kc:=kP wr;by_cases h0:0<m
  ·have q:decide ((m:Int) > 0)=true:=by simp;omega
   have ar:decide (m > 0)=true:=by simp;omega
   have bt:(strOf l).size≤20:=by rw[aO];omega
   have bF:(strOf [byteOf (48+(m:Int) % 10)]).size≤1:=by rw[aO];simp
   go_wp2;go_roundw
   case rel=>exact⟨m / 10,byteOf (48+(m:Int) % 10)::l,by simp,by rw[ah];rfl,ad,by rw[pB];exact Ds aW.o h0,b2.alloc b2.size _⟩
   case measure=>exact aH
  ·have bB:m=0:=ad;have bq:=ae (show jr N=l by have:=aW.o;unfold jb at this;rw[if_pos bB] at this;simpa using this);have q:decide ((m:Int) > 0)=false:=by simp;omega
   clear bB;go_wp2;go_ret;exact⟨ret_str (by rw[bq.o]),b2.o⟩
def lB(n:Int):List UInt8:=aV (hB n)
theorem yS{n:Int}(h:n<0):lB n=45::jr n.natAbs:=by unfold lB hB;rw[if_pos h];simp[aV,Atom.bytes]
theorem uV{n:Int}(h:0≤n):lB n=jr n.toNat:=by unfold lB hB;rw[if_neg ad];simp[aV,Atom.bytes]
theorem l1(n:Int)(w:World)(h:-9223372036854775808≤n∧n≤9223372036854775807) :
  Calls prog 141 #[.int .i64 n] w fun e ab=>e=.returned (.string (strOf (lB n)))∧Below w.heap.size w ab:=by
 by_cases hn:n<0
 ·obtain⟨m,rfl⟩:∃m:Nat,n = -((m:Int)+1):=⟨(-(n+1)).toNat,ad⟩
  have hm:m≤9223372036854775807:=ad;have aa:=ae (yS hn);clear hn h;go_enter func141,ntmps141;go_wp2_with(fail);rw[show (-(-((m:Int)+1)+1)+1)=((m+1:Nat):Int) by omega];refine(pE (m+1) w ad).mono ?_;rintro e ab ⟨rfl,O⟩;have b2:=ae O;clear O;have bt:(strOf (jr (m+1))).size≤20:=by rw[aO];exact js 19 _ ad
  go_wp2;go_ret;exact⟨ret_str (by rw[aa.o,show (-((m:Int)+1)).natAbs=m+1 by omega];exact ah [45] _),b2.o⟩
 ·obtain⟨m,rfl⟩:=KL (show 0≤n by omega);have aa:=ae (uV (n:=(m:Int)) ad);clear hn;go_enter func141,ntmps141;go_wp2_with(fail);refine(pE m w ad).mono ?_;rintro e ab ⟨rfl,O⟩;have b2:=ae O;clear O;go_wp2;go_ret;exact⟨ret_str (by rw[aa.o,Lc]),b2.o⟩
def mQ:Nat→List (List UInt8×Int)
 | 0=>[([124,124],17)]
 | 1=>[([38,38],16)]
 | 2=>[([61,61],14),([33,61],15),([60],10),([60,61],11),([62],12),([62,61],13)]
 | 3=>[([43],8),([45],9)]
 | _=>[([42],5),([47],6),([37],7)]
def HH(k:Nat):List ByteArray:=(mQ k).map fun p=>strOf p.1
def nE(k:Nat):List Int:=(mQ k).map (·.2)
theorem Ep{cs:Array Value}{l:List Int}(h:aq w g t cs)(hc:cs=(l.map (Value.int .i64)).toArray)(hl:l.length=n)(aR:g<B):cq (EF cM) 1 w B (some ⟨g,0,none⟩) n l:=by
 subst hc;refine⟨hl,fun _=>⟨g,0,rfl,aR,fun k x hx=>⟨cM x,rfl,rfl,fun j v bi=>?_⟩⟩⟩;have cl:j=0∧v=.int .i64 x:=by
  cases j with
  | zero=>simp[cM] at bi;exact⟨rfl,bi.symm⟩
  | succ j=>simp[cM] at bi
 obtain⟨rfl,rfl⟩:=cl;rw[h.cell];simp[hx]
theorem Er{cs:Array Value}{l:Lt}(h:aq w g t cs)(hc:cs=(l.map Value.string).toArray)(hl:l.length=n)(aR:g<B):cq (EF om) 1 w B (some ⟨g,0,none⟩) n l:=by
 subst hc;refine⟨hl,fun _=>⟨g,0,rfl,aR,fun k x hx=>⟨om x,rfl,rfl,fun j v bi=>?_⟩⟩⟩;have cl:j=0∧v=.string x:=by
  exact zz
 obtain⟨rfl,rfl⟩:=cl;rw[h.cell];simp[hx]
def y6(w:World)(k:Nat)(e:Ending)(ab:World):Prop:=
 ∃A B n,n≤6∧e=.returned (.tuple #[.slice A n n,.slice B n n])∧cq (EF om) 1 ab ab.heap.size A n (HH k)∧cq (EF cM) 1 ab ab.heap.size B n (nE k)∧Ext w ab
theorem rS(k:Nat)(ap:k≤4)(w:World):Calls prog 168 #[.int .i64 k] w (y6 w k):=by
 obtain rfl|rfl|rfl|rfl|rfl:k=0∨k=1∨k=2∨k=3∨k=4:=ad
 all_goals
  clear ap;go_enter func168,ntmps168;go_wp2
  go_ret2
  generalize ba:World.alloc (World.alloc w _) _=W;refine⟨some ⟨w.heap.size,0,none⟩,some ⟨w.heap.size+1,0,none⟩,_,by decide,rfl,Er (t:=9) (cs:=((HH _).map Value.string).toArray) ?_ rfl rfl ?_,Ep (t:=3) (cs:=((nE _).map (Value.int .i64)).toArray) ?_ rfl rfl ?_,?_⟩
  ·rw[←ba];exact(Lp).alloc _
  ·rw[←ba];simp;omega
  ·rw[←ba];exact aq.hL _ _ _ (by simp)
  ·rw[←ba];simp
  ·rw[←ba];exact(Lo.alloc _).alloc _
theorem EZ(ap:k≤4)(h:op∈nE k):cW op=k:=by
 obtain rfl|rfl|rfl|rfl|rfl:k=0∨k=1∨k=2∨k=3∨k=4:=ad
 all_goals
  simp[nE,mQ] at h;unfold cW
  repeat' split
  all_goals omega
theorem Dj(h:∀k:Nat,k<5→op∉nE k):cW op=if op=3∨op=4 then 5 else 6:=by
 have h0:=h 0 ad;have ac:=h 1 ad;have av:=h 2 ad;have aV:=h 3 ad;have bz:=h 4 ad;simp[nE,mQ] at h0 ac av aV bz;unfold cW;rw[if_neg ad,if_neg ad,if_neg ad,if_neg ad,if_neg ad]
theorem gq(op:Int)(w:World):Calls prog 166 #[.int .i64 op] w fun e ab=>e=.returned (.int .i64 (cW op))∧Ext w ab:=by
 go_enter func166,ntmps166;go_wp2;go_loopw [3] (fun bd wr=>∃k:Nat,k≤5∧bd=.int .i64 k∧(∀i:Nat,i<k→op∉nE i)∧Ext w wr) (fun bd _=>6 - (intOf bd).toNat)
 case atStart=>exact⟨0,ad,rfl,fun i h=>ad,Lo⟩
 case round=>
  obtain⟨k,ap,rfl,bR,O⟩:=hrel;obtain⟨b2,b4⟩:=aI O bR;clear O bR;by_cases ak:k<5
  ·have q:decide ((k:Int)<5)=true:=by simp;omega
   go_wp2_with(fail);refine(rS k ad _).mono ?_;rintro e aT ⟨A,B,n,hn,rfl,hs,bn,he⟩;have bN:=ag bn he;clear hs bn he;go_wp2_with(fail)
   go_loop [6] (fun cu=>∃j:Nat,j≤n∧cu=.int .i64 j∧∀(i:Nat) (x:Int),i<j→(nE k)[i]?=some x→x≠op) (fun cu=>n - (intOf cu).toNat)
   case atStart=>exact⟨0,ad,rfl,fun i x h=>ad⟩
   case round=>
    obtain⟨j,bi,rfl,bf⟩:=hrel;have bq:=ae bf;clear bf;by_cases G:j<n
    ·obtain⟨b,o,x,rfl,U,hx,hc⟩:=bN.1.int G;have aQ:=ae hx;clear hx;by_cases qQ:x=op
     ·have q1:(x == op)=true:=by simpa using qQ
      have aW:=ae (EZ (op:=op) (k:=k) ad (by rw[←qQ];exact KJ aQ.o));clear qQ;go_wp2;go_ret;exact⟨ret_int aW.symm,b2.trans bN.2⟩
     ·have q1:(x == op)=false:=by simpa using qQ
      have S:=ae qQ;clear qQ;go_wp2
      go_round
      case rel=>exact⟨j+1,ad,by go_num,fun i y an bb=>by
       by_cases J:i=j
       ·subst J;rw[aQ.o] at bb;injection bb with bb;subst bb;exact S.o
       ·exact bq.o i y ad bb⟩
      case measure=>exact aH
    ·have c:j=n:=ad;have c7:=ae (show op∉nE k from fun hm=>by
      obtain⟨i,an⟩:=List.getElem?_of_mem hm;have ak:=(List.getElem?_eq_some_iff.1 an).1;have hl:=bN.1.1;exact bq.o i op ad an rfl)
     have cB:decide ((j:Int)<(n:Int))=false:=by simp;omega
     clear c;go_wp2;go_roundw
     case rel=>exact⟨k+1,ad,by go_num,fun i an=>by
      by_cases bX:i=k
      ·subst bX;exact c7.o
      ·exact b4.o i ad,b2.trans bN.2⟩
     case measure=>exact aH
  ·have aL:k=5:=ad;have aW:=ae (Dj (op:=op) (fun i an=>b4.o i ad));subst aL;by_cases aV:op=3∨op=4
   ·have r:=ae (aW.trans (if_pos aV));rcases aV with rfl|rfl
    all_goals
     go_wp2;go_ret;exact⟨ret_int r.symm,b2.o⟩
   ·have r:=ae (aW.trans (if_neg aV));have dd:(op == 3)=false:=by simp;omega
    have df:(op == 4)=false:=by simp;omega
    clear aV;go_wp2;go_ret;exact⟨ret_int r.symm,b2.o⟩
theorem Ft(x:VE):x.a9=a9 x:=by cases x<;>rfl
theorem rE(op n J:Int)(nm:ByteArray)(b o m c:Nat)(k:Nat)(w:World)(ap:k≤1)(L:k<m)(O:b<w.heap.size)(hc:w.cell? ⟨b,o+k*4,none⟩=some (.int .i64 J)) :
  Calls prog 167 #[.agg #[.int .i64 op,.int .i64 n,.string nm,.slice (some ⟨b,o,none⟩) m c],.int .i64 k] w fun e ab=>e=.returned (.bool (dD op J (k == 1)))∧Ext w ab:=by
 have cK:(0:Int)≤(k:Int):=ad;have cv:(k:Int)<(m:Int):=ad;go_enter func167,ntmps167;go_wp2;generalize ba:World.alloc _ _=W;have aw:=aU ba;obtain⟨a0,ai,af⟩:=(show aq W w.heap.size 54 #[.int .i64 op,.int .i64 n,.string nm,.slice (some ⟨b,o,none⟩) m c] by rw[←ba];exact Lp).two;have a3:=(aw.cell (j:=o+k*4) O (fun h=>h)).trans hc;have f:b<W.heap.size:=KH O aw.size;have bq:=ae aw;clear ba aw hc;refine eK (fun _=>False) [(0,3),(1,0),(2,3),(3,3),(4,3),(5,0),(7,3),(8,0),(6,1),(9,2),(10,3),(11,3)] ?_;refine pf ?_;refine ph ?_
 iterate 3 refine pf ?_
 refine ph ?_;refine pf ?_;refine ph ?_;refine aJ rfl (fun K hK=>?_);go_simp;refine(gq J _).mono ?_;rintro e aS ⟨rfl,ar⟩;refine dz hK (ar) ?_;clear hK K;have bu:=ae (bq.trans (Fr.aF ar));clear ar;refine ax rfl (fun K hK=>?_);go_simp;refine(gq op _).mono ?_;rintro e aT ⟨rfl,bw⟩;refine dO hK ?_;clear hK K;have a4:=ae (bu.trans bw);clear bw a0 ai af a3
 iterate 2 refine pf ?_
 refine aE ?_;have b2:=ae (show dD op J (k == 1)=(decide (cW J<cW op) || (cW J == cW op && k == 1)) from rfl);generalize cW J=x at *;generalize cW op=y at *;by_cases ac:x<y
 ·have aW:=ae (show dD op J (k == 1)=true by rw[b2.o];simp[ac]);clear b2;exact sa
 have q1:decide (x<y)=false:=by simpa using ac
 by_cases av:x=y
 ·have cB:(x == y)=true:=by simpa using av
  by_cases aV:k=1
  ·have aW:=ae (show dD op J (k == 1)=true by rw[b2.o];simp[av,aV]);have dd:((k:Int) == 1)=true:=by simp;omega
   have a:(k == 1)=true:=by simp;omega
   clear b2 ac av aV;exact sa
  ·have aW:=ae (show dD op J (k == 1)=false by rw[b2.o];simp[av,aV]);have dd:((k:Int) == 1)=false:=by simp;omega
   have a:(k == 1)=false:=by simp;omega
   clear b2 ac av aV;exact sa
 ·have cB:(x == y)=false:=by simpa using av
  have aW:=ae (show dD op J (k == 1)=false by rw[b2.o];simp[ac,av]);clear b2 ac av;exact sa
theorem kr:ch prog 137 9 (.string ⟨#[]⟩) 1 16:=ch.mk' Tryz.underlying137 (by kernel_rfl) rfl ad
def bX(x:VE):List UInt8:=aV (cn x)
def gx(op:Int)(k:Nat)(y:VE):List UInt8:=aV (par (dD op (a9 y) (k == 1)) (cn y))
def gC:VE→List (List UInt8)
 | .un op x=>[gx op 0 x]
 | .bin op x y=>[gx op 0 x,gx op 1 y]
 | _=>[]
theorem xt(op:Int)(k:Nat)(y:VE):gx op k y=if dD op (a9 y) (k == 1) then 40::(bX y++[41]) else bX y:=by
 unfold gx par bX;split
 ·rw[a5,bf];rfl
 ·rfl
theorem xu(op:Int)(k:Nat)(y:VE):(bX y).length≤(gx op k y).length:=by
 rw[xt];split<;>simp
 omega
theorem xZ(op:Int)(x:VE):bX (.un op x)=(if op=3 then 45 else 33)::gx op 0 x:=by
 unfold bX cn gx;rw[a5];split<;>rfl
theorem uM(op:Int)(x y:VE):bX (.bin op x y)=gx op 0 x++32::(gQ op++32::gx op 1 y):=by
 unfold bX cn gx;rw[bf,a5,a5,a5];rfl
theorem ks(x:VE){t:List UInt8}(h:(gC x)[k]?=some t):t.length≤(bX x).length:=by
 cases x with
 | un op x=>
  rw[xZ]
  match k,h with
  | 0,h=>simp[gC] at h;subst h;simp
 | bin op x y=>
  rw[uM]
  match k,h with
  | 0,h=>simp[gC] at h;subst h;simp
  | 1,h=>simp[gC] at h;subst h;simp;omega
 | num n=>simp[gC] at h
 | g0 n=>simp[gC] at h
 | loc n=>simp[gC] at h
 | iC n=>simp[gC] at h
theorem mh(x:VE)(h:x.args[k]?=some y):(gC x)[k]?=some (gx x.a9 k y)∧k≤1:=by
 cases x with
 | un op x=>
  match k,h with
  | 0,h=>simp[VE.args] at h;subst h;simp[gC,VE.a9]
 | bin op x y=>
  match k,h with
  | 0,h=>simp[VE.args] at h;subst h;simp[gC,VE.a9]
  | 1,h=>simp[VE.args] at h;subst h;simp[gC,VE.a9]
 | num n=>simp[VE.args] at h
 | g0 n=>simp[VE.args] at h
 | loc n=>simp[VE.args] at h
 | iC n=>simp[VE.args] at h
theorem ya(x:VE):(gC x).length=x.args.length:=by cases x<;>rfl
theorem tA(x:VE):x.args.length≤2:=by cases x<;>simp[VE.args]
theorem qB{N:Lt}{d:Nat}(h:x.src N (d+1))(bb:x.args[k]?=some y):y.src N d:=by
 cases x with
 | un op x=>
  match k,bb with
  | 0,bb=>simp[VE.args] at bb;subst bb;exact h.2
 | bin op x y=>
  match k,bb with
  | 0,bb=>simp[VE.args] at bb;subst bb;exact h.2.1
  | 1,bb=>simp[VE.args] at bb;subst bb;exact h.2.2
 | num n=>simp[VE.args] at bb
 | g0 n=>simp[VE.args] at bb
 | loc n=>simp[VE.args] at bb
 | iC n=>simp[VE.args] at bb
theorem qC{N:Lt}(h:x.src N 0):x.args=[]:=by
 cases x with
 | un op x=>exact h.elim
 | bin op x y=>exact h.elim
 | num n=>rfl
 | g0 n=>rfl
 | loc n=>rfl
 | iC n=>rfl
theorem FL{i:Nat}(h:5≤op∧op≤17)(an:(nE (cW op).toNat)[i]?=some op):(HH (cW op).toNat)[i]?=some (strOf (gQ op)):=by
 obtain⟨ac,av⟩:=h;obtain rfl|rfl|rfl|rfl|rfl|rfl|rfl|rfl|rfl|rfl|rfl|rfl|rfl:op=5∨op=6∨op=7∨op=8∨op=9∨op=10∨op=11∨op=12∨op=13∨op=14∨op=15∨op=16∨op=17:=ad
 all_goals
  match i,an with
  | 0,an=>first|rfl|(exact absurd an (by decide))
  | 1,an=>first|rfl|(exact absurd an (by decide))
  | 2,an=>first|rfl|(exact absurd an (by decide))
  | 3,an=>first|rfl|(exact absurd an (by decide))
  | 4,an=>first|rfl|(exact absurd an (by decide))
  | 5,an=>first|rfl|(exact absurd an (by decide))
  | i+6,an=>simp[nE,mQ,cW] at an
theorem uD(h:5≤op∧op≤17):∃k:Nat,k≤4∧cW op=k∧op∈nE k:=by
 obtain⟨ac,av⟩:=h;obtain rfl|rfl|rfl|rfl|rfl|rfl|rfl|rfl|rfl|rfl|rfl|rfl|rfl:op=5∨op=6∨op=7∨op=8∨op=9∨op=10∨op=11∨op=12∨op=13∨op=14∨op=15∨op=16∨op=17:=ad
 all_goals first|exact⟨0,ad,rfl,by decide⟩|exact⟨1,ad,rfl,by decide⟩|exact⟨2,ad,rfl,by decide⟩|exact⟨3,ad,rfl,by decide⟩|exact⟨4,ad,rfl,by decide⟩
def y8(x:VE):Prop:=∀(op n:Int) (s:ByteArray) (A:Ls) (m c:Nat) (w:World),(bk x).rep w (au w) [.int .i64 op,.int .i64 n,.string s,.slice A m c]→(bX x).length≤262144→
 Calls prog 157 #[.agg #[.int .i64 op,.int .i64 n,.string s,.slice A m c]] w fun e ab=>e=.returned (.string (strOf (bX x)))∧Ext w ab
theorem wN{l:List (List UInt8)}{t:List UInt8}(h:l[k]?=some t):(l.take (k+1)).map (fun t=>Value.string (strOf t))=(l.take k).map (fun t=>Value.string (strOf t))++[Value.string (strOf t)]:=by
 rw[List.take_add_one,h,KN];rfl
theorem DC(l:Lt):l.flatMap om=l.map Value.string:=by
 induction l with
 | nil=>rfl
 | cons a l ao=>rw[Lb,ao];rfl
theorem yH{A:Ls}{c:Nat}{l:List (List UInt8)}(h:w.ownsRow base e 1 (.slice A n c) n (l.map fun t=>Value.string (strOf t)))(hl:l.length=n):cq (EF om) 1 w w.heap.size A n (l.map strOf):=
 jE (f:=om) (l:=l.map strOf) (by rw[DC,List.map_map];exact h) (fun _ _=>rfl) (by rw[KK];exact hl)
structure pd(w wr:World)(x:VE)(A:Ls)(m c:Nat):Prop where
 ext:Ext w wr
 blk:aq wr w.heap.size 54 #[.int .i64 x.a9,.int .i64 x.numOf,.string x.bu,.slice A m c]
 args:Sl wr (au w) A m (x.args.map bk)
theorem pd.on{w wr ab:World}{x:VE}{A:Ls}{m c:Nat}(h:pd w wr x A m c)(O:Fr (fun b=>w.heap.size<b) wr ab):pd w ab x A m c:=
 ⟨⟨O.os.trans h.ext.os,O.tape.trans h.ext.tape,O.output.trans h.ext.output,KX h.ext.size O.size,fun k ap hn=>(O.block k (KH ap h.ext.size) ad).trans (h.ext.block k ap hn)⟩,
  h.blk.on O ad,h.args.ak fun b ak=>O.block b (KH ak h.ext.size) (by have:b<w.heap.size:=ak;omega)⟩
theorem Hj{sz:Nat}{v:Value}{xs:List Value}(aC:w.ownsRow base e sz v n xs)(a2:w.grownBy ab v.ownBlock)(O:∀g,base≤g→M g):Fr M w ab:=
 (Fr.refl M w).grown a2 fun k ap=>.inl (O k (aC.lt k ap).1)
theorem Ext.fr(h:Ext w ab):Fr M w ab:=h.mono fun _ h=>h.elim
namespace Br
theorem pj(h:p:=by
 have al:m≤2:=by rw[←hs.1,KK];exact tA x
 have ce:(gC x).length=m:=by rw[ya,←hs.1,KK]
 obtain⟨bH,bm,cp,aQ,F⟩:=CR ce hs ao hx hlen;clear a5 hs ao hx hlen ce;go_enter func157,ntmps157;go_wp2;generalize ba:World.alloc _ _=W;have hT:pd w W x A m c:=by
  have aw:=aU ba;exact⟨aw,by rw[←ba];exact Lp,bm.ak fun b ak=>aw.block b ak (fun h=>h)⟩
 have aa:=ae hT;clear ba hT;go_loopw [3,4] (fun sv bd wr=>∃k:Nat,k≤m∧bd=.int .i64 k∧pd w wr x A m c∧wr.ownsRow (w.heap.size+1) 9 1 sv k (((gC x).take k).map fun t=>Value.string (strOf t))) (fun _ bd _=>m - (intOf bd).toNat)
 case atStart=>exact⟨0,ad,rfl,aa.o,by simp,.inl ⟨rfl,rfl⟩⟩
 case round=>
  obtain⟨k,ap,rfl,hT,aC⟩:=hrel;clear aa;obtain⟨bS,bD,rfl,d4,_,_,_⟩:=b2 aC;obtain⟨aa,bN⟩:=aI hT aC;obtain⟨a0,ai,af⟩:=hT.blk.two;clear hT aC;by_cases ak:k<m
  ·obtain⟨b,o,y,cs,rfl,O,bb,Q,bp,Z⟩:=aa.args.gZ c8 ak
   match cs,bp with
   | [cE,cw,cG,b5],_=>
   have c0:=Z 0 cE rfl;have c1:=Z 1 cw rfl;have c2:=Z 2 cG rfl;have c3:=Z 3 b5 rfl;simp only[KQ] at c0;have aX:b<wr.heap.size:=KH O aa.ext.size;clear Z O;obtain⟨B,bG,bc,e,cv,b0⟩:=a1.1 Q;simp only[List.cons.injEq,and_true] at e;obtain⟨rfl,rfl,rfl,rfl⟩:=e;have bC:=ae bb;have H:=ae (D.aL (c5:=au wr) (fun b ak=>KH ak aa.ext.size) _ _ Q);clear bb Q b0;go_wp2_with(fail);refine(cp.o k y bC.o _ _ _ _ _ _ wr H.o ?_).mono ?_
   ·exact KX (xu x.a9 k y) (KX (ks x (mh x bC.o).1) F.o)
   rintro e aS ⟨rfl,ar⟩;have cf:=(mh x bC.o).2;have ab:=ae (aa.on ar.fr);have d0:=(ar.cell (j:=o+k*4) aX (fun h=>h)).trans c0;have bU:b<aS.heap.size:=KH aX ar.size;have ac:=ae (b1 bN.o (Fr.ext ar));clear aa bN a0 ai af c0 c1 c2 c3 ar aX;obtain⟨a0,ai,af⟩:=ab.blk.two;go_wp2_with(fail);refine(rE x.a9 x.numOf y.a9 x.bu b o m c k aS cf ak bU d0).mono ?_;rintro e aT ⟨rfl,bw⟩;have q:=ae (ab.on bw.fr);have a6:=ae (b1 ac.o (Fr.ext bw));clear ab ac a0 ai af d0 bU bw;obtain⟨a0,ai,af⟩:=q.blk.two;have HA:=ae (xt x.a9 k y);have M:=ae (mh x bC.o).1;have bt:(strOf (bX y)).size≤262144:=by
    rw[aO];exact KX (xu x.a9 k y) (KX (ks x (mh x bC.o).1) F.o)
   rw[←Ft] at *;have b0:w.heap.size+1≤aT.heap.size:=q.blk.lt;by_cases an:dD x.a9 y.a9 (k == 1)=true
   ·rw[an];have aL:=ae (show (⟨#[40]⟩:ByteArray)++strOf (bX y)++⟨#[41]⟩=strOf (gx x.a9 k y) by
     rw[HA.o,if_pos an,show (⟨#[40]⟩:ByteArray)=strOf [40] from rfl,show (⟨#[41]⟩:ByteArray)=strOf [41] from rfl,ah,ah];simp)
    clear an HA;exact Gk
   ·have r:dD x.a9 y.a9 (k == 1)=false:=by simpa using an
    rw[r];have aL:=ae (show strOf (bX y)=strOf (gx x.a9 k y) by rw[HA.o,if_neg an]);clear an r HA;exact Gk
  ·have L:k=m:=ad;subst L;have aW:=ae (yH (by
    have:=bN.o;rw[←bH.o,List.take_length] at this;rw[←bH.o];exact this) bH.o)
   have bq:=ae aa.ext;clear bN cp;have ci:decide ((k:Int)<(k:Int))=false:=by simp
   cases x with
   | num n=>
    have hn:0≤n∧n<4611686018427387904:=by have:=aQ.o;cases d<;>exact this
    have b4:=ae (show lB n=bX (.num n) by rw[uV hn.1];simp[bX,cn,aV,Atom.bytes]);have O:=l1 n wr ad;simp only[VE.a9,VE.numOf,VE.bu] at *;clear ci;go_wp2_with(fail);refine O.mono ?_;rintro e aS ⟨rfl,ar⟩;have bu:=ae (bq.trans (Fr.of ar));clear ar O;go_wp2;go_ret
    exact⟨ret_str (by rw[b4.o]),bu.o⟩
   | g0 s=>
    simp only[VE.a9,VE.numOf,VE.bu] at *;have b4:=ae (show s=strOf (bX (.g0 s)) by simp[bX,cn,aV,Atom.bytes,strOf]);go_wp2;go_ret
    exact⟨ret_str b4.o,bq.o⟩
   | loc j=>exact(by have:=aQ.o;cases d<;>exact this:False).elim
   | iC j=>exact(by have:=aQ.o;cases d<;>exact this:False).elim
   | un op y=>
    obtain rfl:k=1:=bH.symm;obtain⟨b,o,z,rfl,O,bt,hc⟩:=aW.str (k:=0) ad;have V:strOf (gx op 0 y)=z:=by simpa[gC] using bt
    subst V;have bW:(strOf (gx op 0 y)).size≤262144:=by
     rw[aO];exact KX (ks (.un op y) (k:=0) rfl) F.o
    have cy:op=3∨op=4:=by
     cases d with
     | zero=>exact aQ.elim
     | succ d=>exact aQ.1
    have q:=ae (xZ op y);simp only[KQ] at hc;clear bt aQ aa F bH al co ci af d4;rcases cy with rfl|rfl
    ·have b4:=ae (show (⟨#[45]⟩:ByteArray)++strOf (gx 3 0 y)=strOf (bX (.un 3 y)) by rw[q.o,if_pos rfl];exact ah [45] _);clear q;generalize gx 3 0 y=t at *;exact zB
    ·have b4:=ae (show (⟨#[33]⟩:ByteArray)++strOf (gx 4 0 y)=strOf (bX (.un 4 y)) by rw[q.o,if_neg ad];exact ah [33] _);clear q;generalize gx 4 0 y=t at *
     exact zB
   | bin op y z=>
    obtain rfl:k=2:=bH.symm;obtain⟨b,o,aJ,rfl,O,X,u⟩:=aW.str (k:=0) ad;obtain⟨K,R,br,e,_,bF,cK⟩:=aW.str (k:=1) ad;simp only[Lj,Addr.mk.injEq,and_true] at e;obtain⟨rfl,rfl⟩:=e;have V:strOf (gx op 0 y)=aJ:=by simpa[gC] using X
    have av:strOf (gx op 1 z)=br:=by simpa[gC] using bF
    subst V av;have aB:(strOf (gx op 0 y)).size≤262144:=by
     rw[aO];exact KX (ks (.bin op y z) (k:=0) rfl) F.o
    have hr:(strOf (gx op 1 z)).size≤262144:=by
     rw[aO];exact KX (ks (.bin op y z) (k:=1) rfl) F.o
    have cy:5≤op∧op≤17:=by
     cases d with
     | zero=>exact aQ.elim
     | succ d=>exact aQ.1
    have b4:=ae (show ((strOf (gx op 0 y)++⟨#[32]⟩)++strOf (gQ op))++⟨#[32]⟩++strOf (gx op 1 z)=strOf (bX (.bin op y z)) by
     rw[uM,show (⟨#[32]⟩:ByteArray)=strOf [32] from rfl,ah,ah,ah,ah];simp)
    have bE:(strOf (gQ op)).size≤2:=by
     rw[aO];unfold gQ
     repeat' split
     all_goals simp
    have o1:(op == 1)=false:=by simp;omega
    have fg:(op == 2)=false:=by simp;omega
    have o3:(op == 3)=false:=by simp;omega
    have o4:(op == 4)=false:=by simp;omega
    obtain⟨cr,cj,bh,bR⟩:=uD cy;have ax:=ae (fun(i:Nat)=>FL (i:=i) cy);obtain⟨Y,cg⟩:=aI bR bh;simp only[KQ] at u;clear X bF aQ F bH al co ci af d4 aW bR cy;generalize strOf (gx op 0 y)=t0 at *;generalize strOf (gx op 1 z)=t1 at *;generalize strOf (gQ op)=sg at *;simp only[VE.a9,VE.numOf,VE.bu] at *;go_wp2_with(fail);refine(gq op wr).mono ?_;rintro e aS ⟨rfl,ar⟩;rw[bh];go_wp2_with(fail);refine(rS cr cj aS).mono ?_;rintro e aT ⟨bS,aM,n,hn,rfl,hs,bn,bw⟩;have l:=ar.trans bw;have a4:=ae (bq.trans l);have e0:=(l.cell (j:=o) O (fun h=>h)).trans u;have e1:=(l.cell (j:=o+1) O (fun h=>h)).trans cK;have bg:b<aT.heap.size:=KH O l.size;have q:=ae (aa.on (Ext.fr l));obtain⟨a8,am,aF⟩:=q.blk.two;simp only[VE.a9,VE.numOf,VE.bu] at a8;have bN:=ag hs bn;clear hs bn ar bw l u cK O a0 ai aa bq bh;go_wp2_with(fail);go_loopw [8] (fun cu wr=>∃j:Nat,j≤n∧cu=.int .i64 j∧(∀(i:Nat) (x:Int),i<j→(nE cr)[i]?=some x→x≠op)∧Ext aT wr) (fun cu _=>n - (intOf cu).toNat)
    case atStart=>exact⟨0,ad,rfl,fun i x h=>ad,Lo⟩
    case round=>
     obtain⟨j,bi,rfl,bf,bV⟩:=hrel;obtain⟨bz,a9⟩:=aI bf bV;obtain⟨v0,U⟩:=Fr.tb bV;clear bf bV;by_cases G:j<n
     ·obtain⟨c1,aD,x,rfl,P,hx,ay⟩:=bN.2.int G;obtain⟨c2,aE,gJ,rfl,aA,cI,T⟩:=bN.1.str G;have aQ:=ae hx;by_cases qQ:x=op
      ·subst qQ;have v:=ax.o j (by rw[cg.o];exact hx);rw[cg.o,Lc,cI] at v;injection v with v;subst v;clear hx cI;go_wp2;go_quiet (fail)
       go_wp2;go_quiet (fail)
       go_wp2;go_ret;exact⟨ret_str b4.o,a4.trans ((a9.drewN _).drewN _)⟩
      ·have q1:(x == op)=false:=by simpa using qQ
       have S:=ae qQ;clear qQ hx cI;go_wp2;go_quiet (fail)
       go_wp2
       go_round
       case rel=>refine⟨j+1,ad,by go_num,fun i y an bb=>?_,?_⟩;rotate_left;exact a9.drewN _;exact(by
        by_cases J:i=j
        ·subst J;rw[aQ.o] at bb;injection bb with bb;subst bb;exact S.o
        ·exact bz.o i y ad bb)
       case measure=>exact aH
     ·exfalso;obtain⟨i,an⟩:=List.getElem?_of_mem Y.o;have ak:=(List.getElem?_eq_some_iff.1 an).1;have hl:=bN.2.1;exact bz.o i op ad an rfl
 ):p:=h
end Br
open Br in
theorem rU(N:Lt)(d:Nat)(x:VE)(hx:x.src N d)(ao:∀(k:Nat) (y:VE),x.args[k]?=some y→y8 y):y8 x:=by
 intro op n s A m c w a5 hlen;exact pg
theorem jH(N:Lt):∀(d:Nat) (x:VE),x.src N d→y8 x
 | 0,x,h=>rU N 0 x h fun k y bb=>by rw[qC h] at bb;simp at bb
 | d+1,x,h=>rU N (d+1) x h fun k y bb=>jH N d y (qB h bb)
def fS(r:eO):List UInt8:=aV (iv r)
theorem wO(h:r.idx=none):fS r=r.name.data.toList:=by
 unfold fS iv;rw[h];simp[aV,Atom.bytes]
theorem wP{e:VE}(h:r.idx=some e):fS r=r.name.data.toList++91::(bX e++[93]):=by
 unfold fS iv bX;rw[h];simp[aV,Atom.bytes]
theorem jv:(ky r).rep w P cs↔∃A n c,cs=[.string r.name,.slice A n c]∧n≤c∧Sl w P A n (r.idx.toList.map bk):=by
 unfold ky;rw[bK,cp];constructor
 ·rintro⟨y,rfl,h⟩;obtain⟨A,n,c,b5,rfl,hc,hs,aV⟩:=aN.1 h;exact r7
 ·rintro⟨A,n,c,rfl,hc,hs⟩;exact vd
def Et(r:eO):Prop:=∀e,r.idx=some e→∃N d,e.src N d
theorem db(s:ByteArray):strOf s.data.toList=s:=by simp[strOf]
namespace Bs
theorem zS(h:p:=by
 refine pf ?_;refine aE ?_;go_wp2;go_ret;exact⟨ret_str b4.o,bq.trans (Fr.aF ar)⟩
 ):p:=h
end Bs
open Bs in
theorem kF(r:eO)(ay:Et r)(s:ByteArray)(A:Ls)(n c:Nat)(w:World)(a5:(ky r).rep w (au w) [.string s,.slice A n c])(hlen:(fS r).length≤262144) :
  Calls prog 159 #[.agg #[.string s,.slice A n c]] w fun e ab=>e=.returned (.string (strOf (fS r)))∧Ext w ab:=by
 obtain⟨I,aP,aK,e,U,hs⟩:=jv.1 a5;simp only[List.cons.injEq,Value.string.injEq,Value.slice.injEq,and_true] at e;obtain⟨rfl,rfl,rfl,rfl⟩:=e
 cases an:r.idx with
 | none=>
  rw[an] at hs;obtain rfl:n=0:=hs.1.symm;have b4:=ae (show r.name=strOf (fS r) by rw[wO an,db]);clear an hs a5 hlen ay;go_enter func159,ntmps159;go_wp2;go_ret
  exact⟨ret_str b4.o,Lo.alloc _⟩
 | some x=>
  rw[an] at hs;obtain rfl:n=1:=hs.1.symm;obtain⟨N,d,hx⟩:=ay x an;obtain⟨b,o,bs,Z,bv,E,rfl,O,aC,c0,c1,c2,c3⟩:=Sl.D2 hs (c8 x);obtain⟨B,bG,bc,e,cv,b0⟩:=a1.1 aC;simp only[List.cons.injEq,and_true] at e;obtain⟨rfl,rfl,rfl,rfl⟩:=e;have aX:b<w.heap.size:=O;have aa:=ae (wP an);have X:r.name.size≤262144:=by
   have:=hlen;rw[aa.o,KI] at this;have av:r.name.size=r.name.data.toList.length:=rfl;omega
  have bF:(bX x).length≤262144:=by
   have:=hlen;rw[aa.o,KI] at this;simp at this;omega
  have b4:=ae (show r.name++⟨#[91]⟩++strOf (bX x)++⟨#[93]⟩=strOf (fS r) by
   rw[aa.o,show (⟨#[91]⟩:ByteArray)=strOf [91] from rfl,show (⟨#[93]⟩:ByteArray)=strOf [93] from rfl];conv=>lhs;rw[←db r.name]
   rw[ah,ah,ah];simp)
  have bd:=ae bF;have b3:(strOf (bX x)).size≤262144:=by rw[aO];exact bF
  have aQ:=ae (jH N d x hx);have ak:=ae aC;clear an hs a5 hlen ay aa aC b0 O bF hx;go_enter func159,ntmps159;go_wp2;generalize ba:World.alloc _ _=W;have aw:=aU ba;obtain⟨a0,ai,af⟩:=(show aq W w.heap.size 177 #[.string r.name,.slice (some ⟨b,o,none⟩) 1 c] by rw[←ba];exact Lp).two;have d0:=(aw.cell (j:=o) aX (fun h=>h)).trans c0;have d1:=(aw.cell (j:=o+1) aX (fun h=>h)).trans c1;have d2:=(aw.cell (j:=o+2) aX (fun h=>h)).trans c2;have d3:=(aw.cell (j:=o+3) aX (fun h=>h)).trans c3;have f:b<W.heap.size:=KH aX aw.size;have bq:=ae aw;clear ba aw c0 c1 c2 c3 aX;refine eK (fun _=>False) [(0,3),(1,0),(2,3),(3,3),(4,0),(5,3),(6,0),(7,1),(8,3),(9,3),(10,3)] ?_;refine pf ?_;refine ph ?_;refine br (v:=?_) rfl (by rfl) (fun V=>?_) ?_;rotate_left
  ·go_simp;exact ei
  try simp only[PU]
  refine pf ?_;refine ph ?_;refine pf ?_;refine ph ?_;refine aJ rfl (fun K hK=>?_);go_simp;refine(aQ.o _ _ _ _ _ _ _ (D.on ak.o (Fr.ext bq.drew)) bd.o).mono ?_;exact zR
def oa(a:dn):List UInt8:=aV (fC a)
def jc(l:List dn):List UInt8:=40::aV (dX (l.map fC))
def hO(l:List dn):List UInt8:=aV (iT l)
theorem rT(l:List dn):hO l=jc l++[41]:=by
 unfold hO iT jc;rw[a5,bf];rfl
theorem lW:∀(l:List (List Atom)) (a:List Atom),dX (l++[a])=if l=[] then a else dX l++(.sg [44]::.ws 32::a)
 | [],a=>rfl
 | [b],a=>by simp[dX]
 | b::d::l,a=>by
  have ao:=lW (d::l) a;rw[if_neg (by simp)] at ao;rw[if_neg (by simp)];show dX (b::d::(l++[a]))=_
  simp only[dX];rw[KV] at ao;rw[ao];simp
theorem rb{a1:List dn}{a:dn}(h:a1[k]?=some a):jc (a1.take (k+1))=jc (a1.take k)++((if 0<k then [44,32] else [])++oa a):=by
 have ap:k<a1.length:=(List.getElem?_eq_some_iff.1 h).1;unfold jc oa;rw[List.take_add_one,h,KN];show (40:UInt8)::aV (dX (List.map fC (List.take k a1)++[fC a]))=_
 rw[lW];by_cases h0:0<k
 ·rw[if_neg (by intro e;have:=congrArg List.length e;simp only[KK,List.length_take,KZ] at this;omega),if_pos h0,bf,a5,a5];simp[Atom.bytes]
 ·obtain rfl:k=0:=ad;simp[dX,aV]
theorem x8(a1:List dn)(k:Nat):(jc (a1.take k)).length≤(jc (a1.take (k+1))).length:=by
 cases h:a1[k]? with
 | none=>rw[KO (i:=k+1) (by have:=List.getElem?_eq_none_iff.1 h;omega),KO (List.getElem?_eq_none_iff.1 h)];exact KG _
 | some a=>rw[rb h];simp
theorem xm(a1:List dn):∀j k:Nat,(jc (a1.take k)).length≤(jc (a1.take (k+j))).length
 | 0,k=>KG _
 | j+1,k=>KX (xm a1 j k) (x8 a1 (k+j))
theorem tz(a1:List dn)(ap:k≤a1.length):(jc (a1.take k)).length≤(hO a1).length:=by
 have:=xm a1 (a1.length - k) k;rw[show k+(a1.length - k)=a1.length by omega,List.take_length] at this;rw[rT];simp;omega
def FM:dn→Prop
 | .mx r=>Et r
 | .ex e=>∃N d,e.src N d
theorem sI(a:dn):(gH a).sz=7:=by
 cases a with
 | mx r=>rfl
 | ex e=>show D.yM [.b false,fU,bk e]=7;simp only[D.yM,c8,D.sz,fU]
theorem dE{d:D}{l:List D}:D.aQ w P (d::l) cs↔∃x y,cs=x++y∧d.rep w P x∧D.aQ w P l y:=by simp only[D.aQ]
theorem E8(h:(gH (.mx r)).rep w P cs):∃s A n c e0 e1 e2 e3,cs=[.bool true,.string s,.slice A n c,e0,e1,e2,e3]∧(ky r).rep w P [.string s,.slice A n c]:=by
 unfold gH at h;rw[bK,fp] at h;obtain⟨y,rfl,h⟩:=h;obtain⟨x,cG,rfl,hx,bb⟩:=dE.1 h;obtain⟨A,n,c,rfl,hc,hs⟩:=jv.1 hx;rw[D.bj] at bb;obtain⟨A2,c2,rfl⟩:=fh.1 bb;exact⟨_,A,n,c,_,_,_,_,rfl,hx⟩
namespace Bt
theorem vu(h:p:=by
 obtain⟨A,n,c,bo,rfl,_,_,bt⟩:=aN.1 hx;rw[aP] at bt;subst bt;exact zq
 ):p:=h
end Bt
open Bt in
theorem E7{e:VE}(h:(gH (.ex e)).rep w P cs):∃bl r1 op n s A m c,cs=[.bool false,bl,r1,.int .i64 op,.int .i64 n,.string s,.slice A m c]∧(bk e).rep w P [.int .i64 op,.int .i64 n,.string s,.slice A m c]:=by
 exact vt
theorem sy(a1:List dn)(ay:∀a∈a1,FM a)(A:Ls)(n c:Nat)(w:World)(hs:Sl w (au w) A n (a1.map gH))(hlen:(hO a1).length≤262144)(hn:n≤1000) :
  Calls prog 158 #[.slice A n c] w fun e ab=>e=.returned (.string (strOf (hO a1)))∧Ext w ab:=by
 have hl:a1.length=n:=by rw[←hs.1,KK]
 obtain⟨ca,bm,be,F⟩:=iS hl hs ay hlen;clear hs ay hlen hl;go_enter func158,ntmps158;go_wp2;go_loopw [3,4] (fun sv bd wr=>∃k:Nat,k≤n∧bd=.int .i64 k∧sv=.string (strOf (jc (a1.take k)))∧Ext w wr) (fun _ bd _=>n - (intOf bd).toNat)
 case atStart=>exact⟨0,ad,rfl,rfl,Lo⟩
 case round=>
  obtain⟨k,ap,rfl,rfl,aw⟩:=hrel;have bq:=ae aw;clear aw;have bt:(strOf (jc (a1.take k))).size≤262144:=by
   rw[aO];exact KX (tz a1 (by rw[ca.o];exact ap)) F.o
  by_cases ak:k<n
  ·obtain⟨b,o,a,cs,rfl,O,bx,ag,bp,Z⟩:=(bm.on (Fr.ext bq.o)).gZ sI ak;have aX:b<wr.heap.size:=O;have HA:=ae bx;have i:=ae (rb bx);have ce:=ae (be.o a (KJ bx));have cH:(oa a).length≤262144:=by
    have ac:=tz a1 (k:=k+1) (by rw[ca.o];exact ak);rw[i.o] at ac;have av:=F.o;simp at ac;omega
   have f:=ae cH;have b3:(strOf (oa a)).size≤262144:=by rw[aO];exact cH
   clear bx cH O
   cases a with
   | mx r=>
    obtain⟨s,cc,bF,rc,e0,e1,e2,e3,rfl,aB⟩:=E8 ag;have c0:=Z 0 _ rfl;have c1:=Z 1 _ rfl;have c2:=Z 2 _ rfl;simp only[KQ] at c0;have U:=ae aB;clear Z ag aB;have l:=ae (show oa (.mx r)=[109,117,116,101,120,32]++fS r by
     unfold oa fC fS;rw[a5,a5];simp[kw,fM,Atom.bytes])
    have t:(fS r).length≤262144:=by
     have:=f.o;rw[l.o] at this;simp at this;omega
    have j:=ae t;have z:(strOf (fS r)).size≤262144:=by rw[aO];exact t
    clear t;by_cases h0:0<k
    ·
     have q:decide ((k:Int) > 0)=true:=by simp;omega
     have aL:=ae (show strOf (jc (a1.take k))++⟨#[44,32]⟩++⟨#[109,117,116,101,120,32]⟩++strOf (fS r)=strOf (jc (a1.take (k+1))) by
      rw[i.o,if_pos h0,l.o,show (⟨#[44,32]⟩:ByteArray)=strOf [44,32] from rfl,show (⟨#[109,117,116,101,120,32]⟩:ByteArray)=strOf [109,117,116,101,120,32] from rfl,ah,ah,ah]
      try simp)
     go_wp2_with(fail);refine(kF r ce.o s cc bF rc wr U.o j.o).mono ?_;rintro e aS ⟨rfl,ar⟩;have bu:=ae (bq.trans ar);clear ar c0 c1 c2 bq;exact xh
    ·
     have q:decide ((k:Int) > 0)=false:=by simp;omega
     have aL:=ae (show strOf (jc (a1.take k))++⟨#[109,117,116,101,120,32]⟩++strOf (fS r)=strOf (jc (a1.take (k+1))) by
      rw[i.o,if_neg h0,l.o,show (⟨#[109,117,116,101,120,32]⟩:ByteArray)=strOf [109,117,116,101,120,32] from rfl,ah,ah]
      try simp)
     go_wp2_with(fail);refine(kF r ce.o s cc bF rc wr U.o j.o).mono ?_;rintro e aS ⟨rfl,ar⟩;have bu:=ae (bq.trans ar);clear ar c0 c1 c2 bq
     exact xh
   | ex x=>
    obtain⟨bl,r1,op,bc,s,EA,em,ec,rfl,g⟩:=E7 ag;have c0:=Z 0 _ rfl;have c1:=Z 3 _ rfl;have c2:=Z 4 _ rfl;have c3:=Z 5 _ rfl;have u:=Z 6 _ rfl;simp only[KQ] at c0;have m:=ae g;have z:(strOf (bX x)).size≤262144:=b3;obtain⟨N,d,hx⟩:=ce.o;have aQ:=ae (jH N d x hx);clear Z ag g hx ce;by_cases h0:0<k
    ·
     have q:decide ((k:Int) > 0)=true:=by simp;omega
     have aL:=ae (show strOf (jc (a1.take k))++⟨#[44,32]⟩++strOf (bX x)=strOf (jc (a1.take (k+1))) by
      rw[i.o,show oa (.ex x)=bX x from rfl,if_pos h0,show (⟨#[44,32]⟩:ByteArray)=strOf [44,32] from rfl,ah,ah]
      try simp)
     go_wp2_with(fail);refine(aQ.o op bc s EA em ec wr m.o f.o).mono ?_;rintro e aS ⟨rfl,ar⟩;have bu:=ae (bq.trans ar);clear ar c0 c1 c2 c3 u bq;exact xh
    ·
     have q:decide ((k:Int) > 0)=false:=by simp;omega
     have aL:=ae (show strOf (jc (a1.take k))++strOf (bX x)=strOf (jc (a1.take (k+1))) by
      rw[i.o,show oa (.ex x)=bX x from rfl,if_neg h0,ah]
      try simp)
     go_wp2_with(fail);refine(aQ.o op bc s EA em ec wr m.o f.o).mono ?_;rintro e aS ⟨rfl,ar⟩;have bu:=ae (bq.trans ar);clear ar c0 c1 c2 c3 u bq;exact xh
  ·obtain rfl:k=n:=ad;have aL:=ae (show strOf (jc (a1.take k))++⟨#[41]⟩=strOf (hO a1) by
    rw[rT,←ca.o,List.take_length,←ah];rfl)
   go_wp2;go_ret;exact⟨ret_str aL.o,bq.o⟩
inductive aA where
 | set (v:Bool) (n:ByteArray) (e:VE)
 | call (g:Bool) (n:ByteArray) (a1:List dn)
 | lock (u:Bool) (r:eO)
 | ite (e:VE) (th el:an)
 | gv (e:VE) (th:an)
 | ret
def an.list:an→List aA
 | .nil=>[]
 | .set v n e rest=>.set v n e::rest.list
 | .call g n a1 rest=>.call g n a1::rest.list
 | .lock u r rest=>.lock u r::rest.list
 | .ite e th el rest=>.ite e th el::rest.list
 | .gv e th rest=>.gv e th::rest.list
 | .ret rest=>.ret::rest.list
def bg:aA→D
 | .set v n e=>gD (if v then 1 else 2) n (bk e) fU [] [] []
 | .call g n a1=>gD (if g then 4 else 3) n jL fU (a1.map gH) [] []
 | .lock u r=>gD (if u then 6 else 5) ⟨#[]⟩ jL (ky r) [] [] []
 | .ite e th el=>gD 7 ⟨#[]⟩ (bk e) fU [] (c5 th) (c5 el)
 | .gv e th=>gD 8 ⟨#[]⟩ (bk e) fU [] (c5 th) []
 | .ret=>gD 9 ⟨#[]⟩ jL fU [] [] []
theorem cF:∀b:an,c5 b=b.list.map bg
 | .nil=>rfl
 | .set v n e rest=>by simp only[c5,an.list,KM,bg,cF rest]
 | .call g n a1 rest=>by simp only[c5,an.list,KM,bg,cF rest]
 | .lock u r rest=>by simp only[c5,an.list,KM,bg,cF rest]
 | .ite e th el rest=>by simp only[c5,an.list,KM,bg,cF rest]
 | .gv e th rest=>by simp only[c5,an.list,KM,bg,cF rest]
 | .ret rest=>by simp only[c5,an.list,KM,bg,cF rest]
def du(t:Nat):aA→List UInt8
 | .set v n e=>List.replicate t 9++((if v then [118,97,114,32] else [])++(n.data.toList++([32,61,32]++(bX e++[59,10]))))
 | .call g n a1=>List.replicate t 9++((if g then [103,111,32] else [])++(n.data.toList++(hO a1++[59,10])))
 | .lock u r=>List.replicate t 9++((if u then [117,110,108,111,99,107,32] else [108,111,99,107,32])++(fS r++[59,10]))
 | .ite e th el=>List.replicate t 9++([105,102,32]++(bX e++([32,123,10]++(aV (aW (t+1) th)++(List.replicate t 9++([125] ++
   ((if el.isNil then [] else [32,101,108,115,101,32,123,10]++(aV (aW (t+1) el)++(List.replicate t 9++[125])))++[10])))))))
 | .gv e th=>List.replicate t 9++([119,104,105,108,101,32]++(bX e++([32,123,10]++(aV (aW (t+1) th)++(List.replicate t 9++[125,10])))))
 | .ret=>List.replicate t 9++[114,101,116,117,114,110,59,10]
def cD(t:Nat)(b:an):List UInt8:=aV (aW t b)
theorem fF(t:Nat):aV (fx t)=List.replicate t 9:=by
 induction t with
 | zero=>rfl
 | succ t ao=>unfold fx at *;rw[List.replicate_succ,a5,ao];rfl
theorem rk:aV []=[]:=rfl
theorem eT(t:Nat):∀b:an,cD t b=(b.list.map (du t)).flatten
 | .nil=>rfl
 | .set v n e rest=>by
  have ao:=eT t rest;unfold cD at *;simp only[aW,an.list,KM,List.flatten_cons,←ao,du,bf,a5,fF,bX]
  cases v<;>simp[Atom.bytes,kw,aV]
 | .call g n a1 rest=>by
  have ao:=eT t rest;unfold cD at *;simp only[aW,an.list,KM,List.flatten_cons,←ao,du,bf,a5,fF,hO]
  cases g<;>simp[Atom.bytes,kw,aV]
 | .lock u r rest=>by
  have ao:=eT t rest;unfold cD at *;simp only[aW,an.list,KM,List.flatten_cons,←ao,du,bf,a5,fF,fS]
  cases u<;>simp[Atom.bytes,kw,aV]
 | .ite e th el rest=>by
  have ao:=eT t rest;unfold cD at *;simp only[aW,an.list,KM,List.flatten_cons,←ao,du,bf,a5,fF,bX];cases hn:el.isNil
  ·simp only[Lm,if_false,bf,a5,fF];simp[Atom.bytes,kw,rk]
  ·simp only[if_true]
   simp[Atom.bytes,kw,rk]
 | .gv e th rest=>by
  have ao:=eT t rest;unfold cD at *;simp only[aW,an.list,KM,List.flatten_cons,←ao,du,bf,a5,fF,bX]
  simp[Atom.bytes,kw]
 | .ret rest=>by
  have ao:=eT t rest;unfold cD at *;simp only[aW,an.list,KM,List.flatten_cons,←ao,du,bf,a5,fF];simp[Atom.bytes,kw]
end Go.Proofs.YtnhhdaggkiomoaaGreat
