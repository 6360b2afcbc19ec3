/- Part 10 of the proof. No condition of its own. -/
import Derived.Test.YtpkfopfkdgkfkaaGreatQ03
import Derived.Test.YtpkfopfkdgkfkaaGreatQ04
import Derived.Test.YtpkfopfkdgkfkaaGreatQ08
namespace Go.Proofs.YtpkfopfkdgkfkaaGreat
open Go.RowKit Go.Proofs.Tryz
set_option maxRecDepth 1000000
set_option maxHeartbeats 25600000
set_option linter.unusedVariables false
variable{op:Int}{l:List UInt8}{cs:List Value}{B N base g k m n:Nat}{M P:Nat->Prop}{p:Prop}{e t:TypeId}{x y:VE}{ab w:World}{r:e4}
def byteOf(v:Int):UInt8:=UInt8.ofNat v.toNat
theorem k2(W:World)(v:Int):(convert 87 9 (.slice (some ⟨W,0,none⟩) 1 1)).run prog (W.alloc (.cells #[.int .u8 v] 5))=.ok (.string (strOf [byteOf v])) (W.alloc (.cells #[.int .u8 v] 5)):=by
 have:=run_convert_bytes_arg (P:=prog) (W.alloc (.cells #[.int .u8 v] 5)) 87 5 Tryz.underlying87 Tryz.underlying5 W 0 1 1 [v] rfl (λi aX=>by
  have:i=0:=ad;subst this;rw[(au.new W 5 #[.int .u8 v]).cell];rfl) 9 Tryz.underlying9
 rw[this];rfl
theorem aP(l:List UInt8):(strOf l).size=l.length:=by simp[strOf,ByteArray.size]
theorem pK(m:Nat):byteOf (48+((m:Int) % 10))=UInt8.ofNat (48+m % 10):=by
 unfold byteOf;congr 1
theorem ret_str{a b:ByteArray}(h:a=b):Ending.returned a=.returned b:=by rw[h]
theorem ah(a b:List UInt8):strOf a++strOf b=strOf (a++b):=by
 unfold strOf;rw[ByteArray.ext_iff];simp
def ji(N m:Nat)(l:List UInt8):Prop:=jz N=(if m=0 then [] else jz m)++l
theorem rB(N:Nat):ji N (N / 10) [UInt8.ofNat (48+N % 10)]:=by
 unfold ji;rw[jz];split
 .rename_i h;rw[if_pos ad,show N % 10=N by omega];rfl
 .rw[if_neg ad]
theorem Ei(h:ji N m l)(hm:0<m):ji N (m / 10) (UInt8.ofNat (48+m % 10)::l):=by
 unfold ji at *;rw[if_neg ad] at h;rw[h];have:=rB m;unfold ji at this;rw[this];simp
theorem Ga(h:ji N m l)(hN:N<=9223372036854775808):l.length<=20:=by
 have:=jA 19 N ad;unfold ji at h;rw[h,LM] at this;omega
theorem pP(N:Nat)(w:World)(hN:N<=9223372036854775808) :
  Calls prog 139 #[.int .u64 N] w λe ab=>e=.returned (.string (strOf (jz N)))/\Below w w ab:=by
 have kc:=k2 w;go_enter func139,ntmps139;go_wp2;go_loopw [0,3] (λa sv wr=>∃(m:Nat) (l:List UInt8),a=.int .u64 m/\sv=.string (strOf l)/\m<=N/\ji N m l/\Below w w wr) (λa _ _=>(intOf a).toNat)
 case atStart=>exact⟨N / 10,[byteOf (48+(N:Int) % 10)],by simp,rfl,ad,by rw[pK];exact rB N,(Below.refl _ _).alloc (LK _) _⟩
 case round=>
  obtain⟨m,l,rfl,rfl,hm,a5,O⟩:=hrel;obtain⟨a3,b9⟩:=aJ a5 O;have hl:=Ga a5 hN;clear a5 O kc;have kc:=k2 wr;by_cases h0:0<m
  .have q:decide ((m:Int) > 0)=true:=by simp;omega
   have z:decide (m > 0)=true:=by simp;omega
   have aL:(strOf l).size<=20:=by rw[aP];omega
   have bI:(strOf [byteOf (48+(m:Int) % 10)]).size<=1:=by rw[aP];simp
   go_wp2;go_roundw
   case rel=>exact⟨m / 10,byteOf (48+(m:Int) % 10)::l,by simp,by rw[ah];rfl,ad,by rw[pK];exact Ei a3.o h0,b9.alloc b9.size _⟩
   case measure=>exact aH
  .have bC:m=0:=ad;have br:=ae (show jz N=l by have:=a3.o;unfold ji at this;rw[if_pos bC] at this;simpa using this);have q:decide ((m:Int) > 0)=false:=by simp;omega
   clear bC;go_wp2;go_ret;exact⟨ret_str (by rw[br.o]),b9.o⟩
def lM(n:Int):List UInt8:=aV (hZ n)
theorem zn{n:Int}(h:n<0):lM n=45::jz n.natAbs:=by unfold lM hZ;rw[if_pos h];simp[aV,Atom.bytes]
theorem vj{n:Int}(h:0<=n):lM n=jz n.toNat:=by unfold lM hZ;rw[if_neg ad];simp[aV,Atom.bytes]
theorem mb(n:Int)(w:World)(h:-9223372036854775808<=n/\n<=9223372036854775807) :
  Calls prog 116 #[n] w λe ab=>e=.returned (.string (strOf (lM n)))/\Below w w ab:=by
 by_cases hn:n<0
 .obtain⟨m,rfl⟩:∃m:Nat,n = -((m:Int)+1):=⟨(-(n+1)).toNat,ad⟩
  have hm:m<=9223372036854775807:=ad;have aa:=ae (zn hn);clear hn h;go_enter func116,ntmps116;go_wp2_with(fail);rw[show (-(-((m:Int)+1)+1)+1)=((m+1:Nat):Int) by omega];refine(pP (m+1) w ad).mono ?_;rintro e ab ⟨rfl,O⟩;have b9:=ae O;clear O;have aL:(strOf (jz (m+1))).size<=20:=by rw[aP];exact jA 19 _ ad
  go_wp2;go_ret;exact⟨ret_str (by rw[aa.o,show (-((m:Int)+1)).natAbs=m+1 by omega];exact ah [45] _),b9.o⟩
 .obtain⟨m,rfl⟩:=LP (show 0<=n by omega);have aa:=ae (vj (n:=(m:Int)) ad);clear hn;go_enter func116,ntmps116;go_wp2_with(fail);refine(pP m w ad).mono ?_;rintro e ab ⟨rfl,O⟩;have b9:=ae O;clear O;go_wp2;go_ret;exact⟨ret_str (by rw[aa.o,Mc]),b9.o⟩
def m1:Nat->List (List UInt8×Int)
 | 0=>[([124,124],17)]
 | 1=>[([38,38],16)]
 | 2=>[([61,61],14),([33,61],15),([60],10),([60,61],11),([62],12),([62,61],13)]
 | 3=>[([43],8),([45],9)]
 | _=>[([42],5),([47],6),([37],7)]
def IU(k:Nat):List ByteArray:=(m1 k).map λp=>strOf p.1
def nO(k:Nat):List Int:=(m1 k).map (·.2)
theorem Fs{cs:Array Value}{l:List Int}(h:au w g t cs)(hc:cs=(l.map (Value.int .i64)).toArray)(hl:l.length=n)(aQ:g<B):cw (EF cO) 1 w B (some ⟨g,0,none⟩) n l:=by
 subst hc;refine⟨hl,λ_=>⟨g,0,rfl,aQ,λk x hx=>⟨cO x,rfl,rfl,λj v bd=>?_⟩⟩⟩;have aV:j=0/\v=.int .i64 x:=by
  cases j with
  | zero=>simp[cO] at bd;exact⟨rfl,bd.symm⟩
  | succ j=>simp[cO] at bd
 obtain⟨rfl,rfl⟩:=aV;rw[h.cell];simp[hx]
theorem Ft{cs:Array Value}{l:Mu}(h:au w g t cs)(hc:cs=(l.map Value.string).toArray)(hl:l.length=n)(aQ:g<B):cw (EF oB) 1 w B (some ⟨g,0,none⟩) n l:=by
 subst hc;refine⟨hl,λ_=>⟨g,0,rfl,aQ,λk x hx=>⟨oB x,rfl,rfl,λj v bd=>?_⟩⟩⟩;have aV:j=0/\v=.string x:=by
  exact z4
 obtain⟨rfl,rfl⟩:=aV;rw[h.cell];simp[hx]
def zA(w:World)(k:Nat)(e:Ending)(ab:World):Prop:=
 ∃A B n,n<=6/\e=.returned (.tuple #[.slice A n n,.slice B n n])/\cw (EF oB) 1 ab ab.heap.size A n (IU k)/\cw (EF cO) 1 ab ab.heap.size B n (nO k)/\Ext w ab
theorem r4(k:Nat)(aj:k<=4)(w:World):Calls prog 150 #[k] w (zA w k):=by
 obtain rfl|rfl|rfl|rfl|rfl:k=0\/k=1\/k=2\/k=3\/k=4:=ad
 all_goals
  clear aj;go_enter func150,ntmps150;go_wp2
  go_ret2
  generalize ba:World.alloc (World.alloc w _) _=W;refine⟨some ⟨w,0,none⟩,some ⟨w.heap.size+1,0,none⟩,_,by decide,rfl,Ft (t:=9) (cs:=((IU _).map Value.string).toArray) ?_ rfl rfl ?_,Fs (t:=3) (cs:=((nO _).map (Value.int .i64)).toArray) ?_ rfl rfl ?_,?_⟩
  .rw[<-ba];exact(Mp).alloc _
  .rw[<-ba];simp;omega
  .rw[<-ba];exact au.gX _ _ _ (by simp)
  .rw[<-ba];simp
  .rw[<-ba];exact(Mo.alloc _).alloc _
theorem F4(aj:k<=4)(h:op∈nO k):c6 op=k:=by
 obtain rfl|rfl|rfl|rfl|rfl:k=0\/k=1\/k=2\/k=3\/k=4:=ad
 all_goals
  simp[nO,m1] at h;unfold c6
  repeat' split
  all_goals omega
theorem Ea(h:∀k:Nat,k<5->op∉nO k):c6 op=if op=3\/op=4 then 5 else 6:=by
 have h0:=h 0 ad;have ac:=h 1 ad;have ap:=h 2 ad;have aV:=h 3 ad;have bz:=h 4 ad;simp[nO,m1] at h0 ac ap aV bz;unfold c6;rw[if_neg ad,if_neg ad,if_neg ad,if_neg ad,if_neg ad]
theorem gG(op:Int)(w:World):Calls prog 148 #[op] w λe ab=>e=.returned (.int .i64 (c6 op))/\Ext w ab:=by
 go_enter func148,ntmps148;go_wp2;go_loopw [3] (λbH wr=>∃k:Nat,k<=5/\bH=.int .i64 k/\(∀i:Nat,i<k->op∉nO i)/\Ext w wr) (λbH _=>6 - (intOf bH).toNat)
 case atStart=>exact⟨0,ad,rfl,λi h=>ad,Mo⟩
 case round=>
  obtain⟨k,aj,rfl,bm,O⟩:=hrel;obtain⟨b9,bX⟩:=aJ O bm;clear O bm;by_cases an:k<5
  .have q:decide ((k:Int)<5)=true:=by simp;omega
   go_wp2_with(fail);refine(r4 k ad _).mono ?_;rintro e aT ⟨A,B,n,hn,rfl,hs,bn,he⟩;have ch:=ag bn he;clear hs bn he;go_wp2_with(fail)
   go_loop [6] (λcA=>∃j:Nat,j<=n/\cA=.int .i64 j/\∀(i:Nat) (x:Int),i<j->(nO k)[i]?=some x->x≠op) (λcA=>n - (intOf cA).toNat)
   case atStart=>exact⟨0,ad,rfl,λi x h=>ad⟩
   case round=>
    obtain⟨j,bd,rfl,bi⟩:=hrel;have br:=ae bi;clear bi;by_cases u:j<n
    .obtain⟨b,o,x,rfl,aB,hx,hc⟩:=ch.1.int u;have aN:=ae hx;clear hx;by_cases oE:x=op
     .have q1:(x == op)=true:=by simpa using oE
      have a3:=ae (F4 (op:=op) (k:=k) ad (by rw[<-oE];exact LN aN.o));clear oE;go_wp2;go_ret;exact⟨ret_int a3.symm,b9.trans ch.2⟩
     .have q1:(x == op)=false:=by simpa using oE
      have P:=ae oE;clear oE;go_wp2
      go_round
      case rel=>exact⟨j+1,ad,by go_num,λi y aX bb=>by
       by_cases J:i=j
       .subst J;rw[aN.o] at bb;injection bb with bb;subst bb;exact P.o
       .exact br.o i y ad bb⟩
      case measure=>exact aH
    .have c:j=n:=ad;have da:=ae (show op∉nO k from λhm=>by
      obtain⟨i,aX⟩:=List.getElem?_of_mem hm;have an:=(List.getElem?_eq_some_iff.1 aX).1;have hl:=ch.1.1;exact br.o i op ad aX rfl)
     have cJ:decide ((j:Int)<(n:Int))=false:=by simp;omega
     clear c;go_wp2;go_roundw
     case rel=>exact⟨k+1,ad,by go_num,λi aX=>by
      by_cases bT:i=k
      .subst bT;exact da.o
      .exact bX.o i ad,b9.trans ch.2⟩
     case measure=>exact aH
  .have a2:k=5:=ad;have a3:=ae (Ea (op:=op) (λi aX=>bX.o i ad));subst a2;by_cases aV:op=3\/op=4
   .have N:=ae (a3.trans (if_pos aV));rcases aV with rfl|rfl
    all_goals
     go_wp2;go_ret;exact⟨ret_int N.symm,b9.o⟩
   .have N:=ae (a3.trans (if_neg aV));have c9:(op == 3)=false:=by simp;omega
    have dk:(op == 4)=false:=by simp;omega
    clear aV;go_wp2;go_ret;exact⟨ret_int N.symm,b9.o⟩
theorem Gy(x:VE):x.bf=bf x:=by cases x<;>rfl
theorem rN(op n P:Int)(nm:ByteArray)(b o m c:Nat)(k:Nat)(w:World)(aj:k<=1)(M:k<m)(O:b<w.heap.size)(hc:w.cell? ⟨b,o+k*4,none⟩=some (.int .i64 P)) :
  Calls prog 149 #[.agg #[op,n,nm,.slice (some ⟨b,o,none⟩) m c],k] w λe ab=>e=.returned (.bool (dK op P (k == 1)))/\Ext w ab:=by
 have dg:(0:Int)<=(k:Int):=ad;have cx:(k:Int)<(m:Int):=ad;go_enter func149,ntmps149;go_wp2;generalize ba:World.alloc _ _=W;have aw:=aU ba;obtain⟨a0,ai,af⟩:=(show au W w.heap.size 117 #[op,n,nm,.slice (some ⟨b,o,none⟩) m c] by rw[<-ba];exact Mp).two;have S:=(aw.cell (j:=o+k*4) O (λh=>h)).trans hc;have f:b<W:=LL O aw.size;have br:=ae aw;clear ba aw hc;refine eJ (λ_=>False) [(0,3),(1,0),(2,3),(3,3),(4,3),(5,0),(7,3),(8,0),(6,1),(9,2),(10,3),(11,3)] ?_;refine pf ?_;refine ph ?_
 iterate 3 refine pf ?_
 refine ph ?_;refine pf ?_;refine ph ?_;refine aB rfl (λK hK=>?_);go_simp;refine(gG P _).mono ?_;rintro e aS ⟨rfl,ar⟩;refine dq hK (ar) ?_;clear hK K;have bB:=ae (br.trans (Fr.aG ar));clear ar;refine ax rfl (λK hK=>?_);go_simp;refine(gG op _).mono ?_;rintro e aT ⟨rfl,bJ⟩;refine dX hK ?_;clear hK K;have a8:=ae (bB.trans bJ);clear bJ a0 ai af S
 iterate 2 refine pf ?_
 refine aF ?_;have b9:=ae (show dK op P (k == 1)=(decide (c6 P<c6 op) || (c6 P == c6 op && k == 1)) from rfl);generalize c6 P=x at *;generalize c6 op=y at *;by_cases ac:x<y
 .have a3:=ae (show dK op P (k == 1)=true by rw[b9.o];simp[ac]);clear b9;exact ss
 have q1:decide (x<y)=false:=by simpa using ac
 by_cases ap:x=y
 .have cJ:(x == y)=true:=by simpa using ap
  by_cases aV:k=1
  .have a3:=ae (show dK op P (k == 1)=true by rw[b9.o];simp[ap,aV]);have c9:((k:Int) == 1)=true:=by simp;omega
   have a:(k == 1)=true:=by simp;omega
   clear b9 ac ap aV;exact ss
  .have a3:=ae (show dK op P (k == 1)=false by rw[b9.o];simp[ap,aV]);have c9:((k:Int) == 1)=false:=by simp;omega
   have a:(k == 1)=false:=by simp;omega
   clear b9 ac ap aV;exact ss
 .have cJ:(x == y)=false:=by simpa using ap
  have a3:=ae (show dK op P (k == 1)=false by rw[b9.o];simp[ac,ap]);clear b9 ac ap;exact ss
theorem kF:cn prog 90 9 (.string ⟨#[]⟩) 1 16:=cn.mk' Tryz.underlying90 (by kernel_rfl) rfl ad
def bY(x:VE):List UInt8:=aV (ct x)
def gK(op:Int)(k:Nat)(y:VE):List UInt8:=aV (par (dK op (bf y) (k == 1)) (ct y))
def gN:VE->List (List UInt8)
 | .un op x=>[gK op 0 x]
 | .bin op x y=>[gK op 0 x,gK op 1 y]
 | _=>[]
theorem xU(op:Int)(k:Nat)(y:VE):gK op k y=if dK op (bf y) (k == 1) then 40::(bY y++[41]) else bY y:=by
 unfold gK par bY;split
 .rw[a5,bh];rfl
 .rfl
theorem xV(op:Int)(k:Nat)(y:VE):(bY y).length<=(gK op k y).length:=by
 rw[xU];split<;>simp
 omega
theorem yq(op:Int)(x:VE):bY (.un op x)=(if op=3 then 45 else 33)::gK op 0 x:=by
 unfold bY ct gK;rw[a5];split<;>rfl
theorem va(op:Int)(x y:VE):bY (.bin op x y)=gK op 0 x++32::(g5 op++32::gK op 1 y):=by
 unfold bY ct gK;rw[bh,a5,a5,a5];rfl
theorem kG(x:VE){t:List UInt8}(h:(gN x)[k]?=some t):t.length<=(bY x).length:=by
 cases x with
 | un op x=>
  rw[yq]
  match k,h with
  | 0,h=>simp[gN] at h;subst h;simp
 | bin op x y=>
  rw[va]
  match k,h with
  | 0,h=>simp[gN] at h;subst h;simp
  | 1,h=>simp[gN] at h;subst h;simp;omega
 | num n=>simp[gN] at h
 | hg n=>simp[gN] at h
 | loc n=>simp[gN] at h
 | iI n=>simp[gN] at h
theorem mv(x:VE)(h:x.args[k]?=some y):(gN x)[k]?=some (gK x.bf k y)/\k<=1:=by
 cases x with
 | un op x=>
  match k,h with
  | 0,h=>simp[VE.args] at h;subst h;simp[gN,VE.bf]
 | bin op x y=>
  match k,h with
  | 0,h=>simp[VE.args] at h;subst h;simp[gN,VE.bf]
  | 1,h=>simp[VE.args] at h;subst h;simp[gN,VE.bf]
 | num n=>simp[VE.args] at h
 | hg n=>simp[VE.args] at h
 | loc n=>simp[VE.args] at h
 | iI n=>simp[VE.args] at h
theorem yC(x:VE):(gN x).length=x.args.length:=by cases x<;>rfl
theorem tO(x:VE):x.args.length<=2:=by cases x<;>simp[VE.args]
theorem qI{N:Mu}{d:Nat}(h:x.src N (d+1))(bb:x.args[k]?=some y):y.src N d:=by
 cases x with
 | un op x=>
  match k,bb with
  | 0,bb=>simp[VE.args] at bb;subst bb;exact h.2
 | bin op x y=>
  match k,bb with
  | 0,bb=>simp[VE.args] at bb;subst bb;exact h.2.1
  | 1,bb=>simp[VE.args] at bb;subst bb;exact h.2.2
 | num n=>simp[VE.args] at bb
 | hg n=>simp[VE.args] at bb
 | loc n=>simp[VE.args] at bb
 | iI n=>simp[VE.args] at bb
theorem qJ{N:Mu}(h:x.src N 0):x.args=[]:=by
 cases x with
 | un op x=>exact h.elim
 | bin op x y=>exact h.elim
 | num n=>rfl
 | hg n=>rfl
 | loc n=>rfl
 | iI n=>rfl
theorem GQ{i:Nat}(h:5<=op/\op<=17)(aX:(nO (c6 op).toNat)[i]?=some op):(IU (c6 op).toNat)[i]?=some (strOf (g5 op)):=by
 obtain⟨ac,ap⟩:=h;obtain rfl|rfl|rfl|rfl|rfl|rfl|rfl|rfl|rfl|rfl|rfl|rfl|rfl:op=5\/op=6\/op=7\/op=8\/op=9\/op=10\/op=11\/op=12\/op=13\/op=14\/op=15\/op=16\/op=17:=ad
 all_goals
  match i,aX with
  | 0,aX=>first|rfl|(exact absurd aX (by decide))
  | 1,aX=>first|rfl|(exact absurd aX (by decide))
  | 2,aX=>first|rfl|(exact absurd aX (by decide))
  | 3,aX=>first|rfl|(exact absurd aX (by decide))
  | 4,aX=>first|rfl|(exact absurd aX (by decide))
  | 5,aX=>first|rfl|(exact absurd aX (by decide))
  | i+6,aX=>simp[nO,m1,c6] at aX
theorem uR(h:5<=op/\op<=17):∃k:Nat,k<=4/\c6 op=k/\op∈nO k:=by
 obtain⟨ac,ap⟩:=h;obtain rfl|rfl|rfl|rfl|rfl|rfl|rfl|rfl|rfl|rfl|rfl|rfl|rfl:op=5\/op=6\/op=7\/op=8\/op=9\/op=10\/op=11\/op=12\/op=13\/op=14\/op=15\/op=16\/op=17:=ad
 all_goals first|exact⟨0,ad,rfl,by decide⟩|exact⟨1,ad,rfl,by decide⟩|exact⟨2,ad,rfl,by decide⟩|exact⟨3,ad,rfl,by decide⟩|exact⟨4,ad,rfl,by decide⟩
def zC(x:VE):Prop:=∀(op n:Int) (s:ByteArray) (A:Mt) (m c:Nat) (w:World),(bm x).rep w (aq w) [.int .i64 op,.int .i64 n,.string s,.slice A m c]->(bY x).length<=262144->
 Calls prog 140 #[.agg #[.int .i64 op,.int .i64 n,.string s,.slice A m c]] w λe ab=>e=.returned (.string (strOf (bY x)))/\Ext w ab
theorem xi{l:List (List UInt8)}{t:List UInt8}(h:l[k]?=some t):(l.take (k+1)).map (λt=>Value.string (strOf t))=(l.take k).map (λt=>Value.string (strOf t))++[Value.string (strOf t)]:=by
 rw[List.take_add_one,h,LR];rfl
theorem Et(l:Mu):l.flatMap oB=l.map Value.string:=by
 induction l with
 | nil=>rfl
 | cons a l Z=>rw[Mb,Z];rfl
theorem zd{A:Mt}{c:Nat}{l:List (List UInt8)}(h:w.ownsRow base e 1 (.slice A n c) n (l.map λt=>Value.string (strOf t)))(hl:l.length=n):cw (EF oB) 1 w w.heap.size A n (l.map strOf):=
 jN (f:=oB) (l:=l.map strOf) (by rw[Et,List.map_map];exact h) (λ_ _=>rfl) (by rw[LO];exact hl)
structure pw(w wr:World)(x:VE)(A:Mt)(m c:Nat):Prop where
 ext:Ext w wr
 blk:au wr w.heap.size 117 #[.int .i64 x.bf,.int .i64 x.numOf,.string x.bu,.slice A m c]
 args:Sl wr (aq w) A m (x.args.map bm)
theorem pw.on{w wr ab:World}{x:VE}{A:Mt}{m c:Nat}(h:pw w wr x A m c)(O:Fr (λb=>w.heap.size<b) wr ab):pw w ab x A m c:=
 ⟨⟨O.os.trans h.ext.os,O.tape.trans h.ext.tape,O.output.trans h.ext.output,L6 h.ext.size O.size,λk aj hn=>(O.block k (LL aj h.ext.size) ad).trans (h.ext.block k aj hn)⟩,
  h.blk.on O ad,h.args.ai λb an=>O.block b (LL an h.ext.size) (by have:b<w.heap.size:=an;omega)⟩
theorem Iw{sz:Nat}{v:Value}{xs:List Value}(ao:w.ownsRow base e sz v n xs)(aR:w.grownBy ab v.ownBlock)(O:∀g,base<=g->M g):Fr M w ab:=
 (Fr.refl M w).grown aR λk aj=>.inl (O k (ao.lt k aj).1)
theorem Ext.fr(h:Ext w ab):Fr M w ab:=h.mono λ_ h=>h.elim
namespace Ca
theorem pz(h:p:=by
 have bQ:m<=2:=by rw[<-hs.1,LO];exact tO x
 have cj:(gN x).length=m:=by rw[yC,<-hs.1,LO]
 obtain⟨bF,bt,b5,aN,F⟩:=Di cj hs Z hx hlen;clear a5 hs Z hx hlen cj;go_enter func140,ntmps140;go_wp2;generalize ba:World.alloc _ _=W;have hT:pw w W x A m c:=by
  have aw:=aU ba;exact⟨aw,by rw[<-ba];exact Mp,bt.ai λb an=>aw.block b an (λh=>h)⟩
 have aa:=ae hT;clear ba hT;go_loopw [3,4] (λsv bH wr=>∃k:Nat,k<=m/\bH=.int .i64 k/\pw w wr x A m c/\wr.ownsRow (w.heap.size+1) 9 1 sv k (((gN x).take k).map λt=>Value.string (strOf t))) (λ_ bH _=>m - (intOf bH).toNat)
 case atStart=>exact⟨0,ad,rfl,aa.o,by simp,.inl ⟨rfl,rfl⟩⟩
 case round=>
  obtain⟨k,aj,rfl,hT,ao⟩:=hrel;clear aa;obtain⟨bV,bD,rfl,d6,_,_,_⟩:=bT ao;obtain⟨aa,ch⟩:=aJ hT ao;obtain⟨a0,ai,af⟩:=hT.blk.two;clear hT ao;by_cases an:k<m
  .obtain⟨b,o,y,cs,rfl,O,bb,bR,bh,a4⟩:=aa.args.hf df an
   match cs,bh with
   | [cK,cp,cX,bx],_=>
   have c0:=a4 0 cK rfl;have c1:=a4 1 cp rfl;have c2:=a4 2 cX rfl;have c3:=a4 3 bx rfl;simp only[LW] at c0;have a1:b<wr.heap.size:=LL O aa.ext.size;clear a4 O;obtain⟨B,bv,bc,e,cx,cv⟩:=aZ.1 bR;simp only[List.cons.injEq,and_true] at e;obtain⟨rfl,rfl,rfl,rfl⟩:=e;have bC:=ae bb;have H:=ae (D.aK (de:=aq wr) (λb an=>LL an aa.ext.size) _ _ bR);clear bb bR cv;go_wp2_with(fail);refine(b5.o k y bC.o _ _ _ _ _ _ wr H.o ?_).mono ?_
   .exact L6 (xV x.bf k y) (L6 (kG x (mv x bC.o).1) F.o)
   rintro e aS ⟨rfl,ar⟩;have ce:=(mv x bC.o).2;have ab:=ae (aa.on ar.fr);have d0:=(ar.cell (j:=o+k*4) a1 (λh=>h)).trans c0;have b0:b<aS:=LL a1 ar.size;have Y:=ae (b2 ch.o (Fr.ext ar));clear aa ch a0 ai af c0 c1 c2 c3 ar a1;obtain⟨a0,ai,af⟩:=ab.blk.two;go_wp2_with(fail);refine(rN x.bf x.numOf y.bf x.bu b o m c k aS ce an b0 d0).mono ?_;rintro e aT ⟨rfl,bJ⟩;have l:=ae (ab.on bJ.fr);have a6:=ae (b2 Y.o (Fr.ext bJ));clear ab Y a0 ai af d0 b0 bJ;obtain⟨a0,ai,af⟩:=l.blk.two;have HA:=ae (xU x.bf k y);have X:=ae (mv x bC.o).1;have aL:(strOf (bY y)).size<=262144:=by
    rw[aP];exact L6 (xV x.bf k y) (L6 (kG x (mv x bC.o).1) F.o)
   rw[<-Gy] at *;have cv:w+1<=aT.heap.size:=l.blk.lt;by_cases aX:dK x.bf y.bf (k == 1)=true
   .rw[aX];have aK:=ae (show (⟨#[40]⟩:ByteArray)++strOf (bY y)++⟨#[41]⟩=strOf (gK x.bf k y) by
     rw[HA.o,if_pos aX,show (⟨#[40]⟩:ByteArray)=strOf [40] from rfl,show (⟨#[41]⟩:ByteArray)=strOf [41] from rfl,ah,ah];simp)
    clear aX HA;exact Ht
   .have G:dK x.bf y.bf (k == 1)=false:=by simpa using aX
    rw[G];have aK:=ae (show strOf (bY y)=strOf (gK x.bf k y) by rw[HA.o,if_neg aX]);clear aX G HA;exact Ht
  .have M:k=m:=ad;subst M;have a3:=ae (zd (by
    have:=ch.o;rw[<-bF.o,List.take_length] at this;rw[<-bF.o];exact this) bF.o)
   have br:=ae aa.ext;clear ch b5;have b8:decide ((k:Int)<(k:Int))=false:=by simp
   cases x with
   | num n=>
    have hn:0<=n/\n<4611686018427387904:=by have:=aN.o;cases d<;>exact this
    have bX:=ae (show lM n=bY (.num n) by rw[vj hn.1];simp[bY,ct,aV,Atom.bytes]);have O:=mb n wr ad;simp only[VE.bf,VE.numOf,VE.bu] at *;clear b8;go_wp2_with(fail);refine O.mono ?_;rintro e aS ⟨rfl,ar⟩;have bB:=ae (br.trans (Fr.of ar));clear ar O;go_wp2;go_ret
    exact⟨ret_str (by rw[bX.o]),bB.o⟩
   | hg s=>
    simp only[VE.bf,VE.numOf,VE.bu] at *;have bX:=ae (show s=strOf (bY (.hg s)) by simp[bY,ct,aV,Atom.bytes,strOf]);go_wp2;go_ret
    exact⟨ret_str bX.o,br.o⟩
   | loc j=>exact(by have:=aN.o;cases d<;>exact this:False).elim
   | iI j=>exact(by have:=aN.o;cases d<;>exact this:False).elim
   | un op y=>
    obtain rfl:k=1:=bF.symm;obtain⟨b,o,z,rfl,O,aL,hc⟩:=a3.str (k:=0) ad;have R:strOf (gK op 0 y)=z:=by simpa[gN] using aL
    subst R;have U:(strOf (gK op 0 y)).size<=262144:=by
     rw[aP];exact L6 (kG (.un op y) (k:=0) rfl) F.o
    have cw:op=3\/op=4:=by
     cases d with
     | zero=>exact aN.elim
     | succ d=>exact aN.1
    have l:=ae (yq op y);simp only[LW] at hc;clear aL aN aa F bF bQ aC b8 af d6;rcases cw with rfl|rfl
    .have bX:=ae (show (⟨#[45]⟩:ByteArray)++strOf (gK 3 0 y)=strOf (bY (.un 3 y)) by rw[l.o,if_pos rfl];exact ah [45] _);clear l;generalize gK 3 0 y=t at *;exact z6
    .have bX:=ae (show (⟨#[33]⟩:ByteArray)++strOf (gK 4 0 y)=strOf (bY (.un 4 y)) by rw[l.o,if_neg ad];exact ah [33] _);clear l;generalize gK 4 0 y=t at *
     exact z6
   | bin op y z=>
    obtain rfl:k=2:=bF.symm;obtain⟨b,o,ax,rfl,O,S,L⟩:=a3.str (k:=0) ad;obtain⟨K,Q,bu,e,_,bI,cz⟩:=a3.str (k:=1) ad;simp only[Mj,Addr.mk.injEq,and_true] at e;obtain⟨rfl,rfl⟩:=e;have R:strOf (gK op 0 y)=ax:=by simpa[gN] using S
    have ac:strOf (gK op 1 z)=bu:=by simpa[gN] using bI
    subst R ac;have az:(strOf (gK op 0 y)).size<=262144:=by
     rw[aP];exact L6 (kG (.bin op y z) (k:=0) rfl) F.o
    have ht:(strOf (gK op 1 z)).size<=262144:=by
     rw[aP];exact L6 (kG (.bin op y z) (k:=1) rfl) F.o
    have cw:5<=op/\op<=17:=by
     cases d with
     | zero=>exact aN.elim
     | succ d=>exact aN.1
    have bX:=ae (show ((strOf (gK op 0 y)++⟨#[32]⟩)++strOf (g5 op))++⟨#[32]⟩++strOf (gK op 1 z)=strOf (bY (.bin op y z)) by
     rw[va,show (⟨#[32]⟩:ByteArray)=strOf [32] from rfl,ah,ah,ah,ah];simp)
    have bG:(strOf (g5 op)).size<=2:=by
     rw[aP];unfold g5
     repeat' split
     all_goals simp
    have o1:(op == 1)=false:=by simp;omega
    have fm:(op == 2)=false:=by simp;omega
    have o3:(op == 3)=false:=by simp;omega
    have o4:(op == 4)=false:=by simp;omega
    obtain⟨gX,cS,bf,cn⟩:=uR cw;have al:=ae (λ(i:Nat)=>GQ (i:=i) cw);obtain⟨V,cI⟩:=aJ cn bf;simp only[LW] at L;clear S bI aN F bF bQ aC b8 af d6 a3 cn cw;generalize strOf (gK op 0 y)=t0 at *;generalize strOf (gK op 1 z)=t1 at *;generalize strOf (g5 op)=sg at *;simp only[VE.bf,VE.numOf,VE.bu] at *;go_wp2_with(fail);refine(gG op wr).mono ?_;rintro e aS ⟨rfl,ar⟩;rw[bf];go_wp2_with(fail);refine(r4 gX cS aS).mono ?_;rintro e aT ⟨bV,aB,n,hn,rfl,hs,bn,bJ⟩;have q:=ar.trans bJ;have a8:=ae (br.trans q);have e0:=(q.cell (j:=o) O (λh=>h)).trans L;have e1:=(q.cell (j:=o+1) O (λh=>h)).trans cz;have bj:b<aT:=LL O q.size;have l:=ae (aa.on (Ext.fr q));obtain⟨bq,am,aG⟩:=l.blk.two;simp only[VE.bf,VE.numOf,VE.bu] at bq;have ch:=ag hs bn;clear hs bn ar bJ q L cz O a0 ai aa br bf;go_wp2_with(fail);go_loopw [8] (λcA wr=>∃j:Nat,j<=n/\cA=.int .i64 j/\(∀(i:Nat) (x:Int),i<j->(nO gX)[i]?=some x->x≠op)/\Ext aT wr) (λcA _=>n - (intOf cA).toNat)
    case atStart=>exact⟨0,ad,rfl,λi x h=>ad,Mo⟩
    case round=>
     obtain⟨j,bd,rfl,bi,bK⟩:=hrel;obtain⟨bz,cd⟩:=aJ bi bK;obtain⟨v0,ak⟩:=Fr.qO bK;clear bi bK;by_cases u:j<n
     .obtain⟨c1,aA,x,rfl,r,hx,ap⟩:=ch.2.int u;obtain⟨c2,aD,gH,rfl,ay,c9,T⟩:=ch.1.str u;have aN:=ae hx;by_cases oE:x=op
      .subst oE;have v:=al.o j (by rw[cI.o];exact hx);rw[cI.o,Mc,c9] at v;injection v with v;subst v;clear hx c9;go_wp2;go_quiet (fail)
       go_wp2;go_quiet (fail)
       go_wp2;go_ret;exact⟨ret_str bX.o,a8.trans ((cd.drewN _).drewN _)⟩
      .have q1:(x == op)=false:=by simpa using oE
       have P:=ae oE;clear oE hx c9;go_wp2;go_quiet (fail)
       go_wp2
       go_round
       case rel=>refine⟨j+1,ad,by go_num,λi y aX bb=>?_,?_⟩;rotate_left;exact cd.drewN _;exact(by
        by_cases J:i=j
        .subst J;rw[aN.o] at bb;injection bb with bb;subst bb;exact P.o
        .exact bz.o i y ad bb)
       case measure=>exact aH
     .exfalso;obtain⟨i,aX⟩:=List.getElem?_of_mem V.o;have an:=(List.getElem?_eq_some_iff.1 aX).1;have hl:=ch.2.1;exact bz.o i op ad aX rfl
 ):p:=h
end Ca
open Ca in
theorem r7(N:Mu)(d:Nat)(x:VE)(hx:x.src N d)(Z:∀(k:Nat) (y:VE),x.args[k]?=some y->zC y):zC x:=by
 intro op n s A m c w a5 hlen;exact py
theorem jQ(N:Mu):∀(d:Nat) (x:VE),x.src N d->zC x
 | 0,x,h=>r7 N 0 x h λk y bb=>by rw[qJ h] at bb;simp at bb
 | d+1,x,h=>r7 N (d+1) x h λk y bb=>jQ N d y (qI h bb)
def gi(r:e4):List UInt8:=aV (iB r)
theorem xj(h:r.idx=none):gi r=r.name.data.toList:=by
 unfold gi iB;rw[h];simp[aV,Atom.bytes]
theorem xk{e:VE}(h:r.idx=some e):gi r=r.name.data.toList++91::(bY e++[93]):=by
 unfold gi iB bY;rw[h];simp[aV,Atom.bytes]
theorem jD:(kL r).rep w P cs↔∃A n c,cs=[.string r.name,.slice A n c]/\n<=c/\Sl w P A n (r.idx.toList.map bm):=by
 unfold kL;rw[bN,cu];constructor
 .rintro⟨y,rfl,h⟩;obtain⟨A,n,c,bx,rfl,hc,hs,aV⟩:=aO.1 h;exact so
 .rintro⟨A,n,c,rfl,hc,hs⟩;exact vt
def Fv(r:e4):Prop:=∀e,r.idx=some e->∃N d,e.src N d
theorem dk(s:ByteArray):strOf s.data.toList=s:=by simp[strOf]
namespace Cb
theorem Ap(h:p:=by
 refine pf ?_;refine aF ?_;go_wp2;go_ret;exact⟨ret_str bX.o,br.trans (Fr.aG ar)⟩
 ):p:=h
end Cb
open Cb in
theorem kS(r:e4)(aA:Fv r)(s:ByteArray)(A:Mt)(n c:Nat)(w:World)(a5:(kL r).rep w (aq w) [s,.slice A n c])(hlen:(gi r).length<=262144) :
  Calls prog 142 #[.agg #[s,.slice A n c]] w λe ab=>e=.returned (.string (strOf (gi r)))/\Ext w ab:=by
 obtain⟨I,a6,aE,e,aY,hs⟩:=jD.1 a5;simp only[List.cons.injEq,Value.string.injEq,Value.slice.injEq,and_true] at e;obtain⟨rfl,rfl,rfl,rfl⟩:=e
 cases aX:r.idx with
 | none=>
  rw[aX] at hs;obtain rfl:n=0:=hs.1.symm;have bX:=ae (show r.name=strOf (gi r) by rw[xj aX,dk]);clear aX hs a5 hlen aA;go_enter func142,ntmps142;go_wp2;go_ret
  exact⟨ret_str bX.o,Mo.alloc _⟩
 | some x=>
  rw[aX] at hs;obtain rfl:n=1:=hs.1.symm;obtain⟨N,d,hx⟩:=aA x aX;obtain⟨b,o,ci,aK,a4,E,rfl,O,cm,c0,c1,c2,c3⟩:=Sl.E2 hs (df x);obtain⟨B,bv,bc,e,cx,cv⟩:=aZ.1 cm;simp only[List.cons.injEq,and_true] at e;obtain⟨rfl,rfl,rfl,rfl⟩:=e;have a1:b<w:=O;have aa:=ae (xk aX);have S:r.name.size<=262144:=by
   have:=hlen;rw[aa.o,LM] at this;have ap:r.name.size=r.name.data.toList.length:=rfl;omega
  have bI:(bY x).length<=262144:=by
   have:=hlen;rw[aa.o,LM] at this;simp at this;omega
  have bX:=ae (show r.name++⟨#[91]⟩++strOf (bY x)++⟨#[93]⟩=strOf (gi r) by
   rw[aa.o,show (⟨#[91]⟩:ByteArray)=strOf [91] from rfl,show (⟨#[93]⟩:ByteArray)=strOf [93] from rfl];conv=>lhs;rw[<-dk r.name]
   rw[ah,ah,ah];simp)
  have bk:=ae bI;have cb:(strOf (bY x)).size<=262144:=by rw[aP];exact bI
  have aN:=ae (jQ N d x hx);have H:=ae cm;clear aX hs a5 hlen aA aa cm cv O bI hx;go_enter func142,ntmps142;go_wp2;generalize ba:World.alloc _ _=W;have aw:=aU ba;obtain⟨a0,ai,af⟩:=(show au W w.heap.size 148 #[.string r.name,.slice (some ⟨b,o,none⟩) 1 c] by rw[<-ba];exact Mp).two;have d0:=(aw.cell (j:=o) a1 (λh=>h)).trans c0;have d1:=(aw.cell (j:=o+1) a1 (λh=>h)).trans c1;have d2:=(aw.cell (j:=o+2) a1 (λh=>h)).trans c2;have d3:=(aw.cell (j:=o+3) a1 (λh=>h)).trans c3;have f:b<W:=LL a1 aw.size;have br:=ae aw;clear ba aw c0 c1 c2 c3 a1;refine eJ (λ_=>False) [(0,3),(1,0),(2,3),(3,3),(4,0),(5,3),(6,0),(7,1),(8,3),(9,3),(10,3)] ?_;refine pf ?_;refine ph ?_;refine bs (v:=?_) rfl (by rfl) (λV=>?_) ?_;rotate_left
  .go_simp;exact ez
  try simp only[PU]
  refine pf ?_;refine ph ?_;refine pf ?_;refine ph ?_;refine aB rfl (λK hK=>?_);go_simp;refine(aN.o _ _ _ _ _ _ _ (D.on H.o (Fr.ext br.drew)) bk.o).mono ?_;exact Ao
def oo(a:dt):List UInt8:=aV (fR a)
def jj(l:List dt):List UInt8:=40::aV (ep (l.map fR))
def h3(l:List dt):List UInt8:=aV (iZ l)
theorem r6(l:List dt):h3 l=jj l++[41]:=by
 unfold h3 iZ jj;rw[a5,bh];rfl
theorem l6:∀(l:List (List Atom)) (a:List Atom),ep (l++[a])=if l=[] then a else ep l++(.sg [44]::.ws 32::a)
 | [],a=>rfl
 | [b],a=>by simp[ep]
 | b::d::l,a=>by
  have Z:=l6 (d::l) a;rw[if_neg (by simp)] at Z;rw[if_neg (by simp)];show ep (b::d::(l++[a]))=_
  simp only[ep];rw[L4] at Z;rw[Z];simp
theorem rn{aW:List dt}{a:dt}(h:aW[k]?=some a):jj (aW.take (k+1))=jj (aW.take k)++((if 0<k then [44,32] else [])++oo a):=by
 have aj:k<aW.length:=(List.getElem?_eq_some_iff.1 h).1;unfold jj oo;rw[List.take_add_one,h,LR];show (40:UInt8)::aV (ep (List.map fR (List.take k aW)++[fR a]))=_
 rw[l6];by_cases h0:0<k
 .rw[if_neg (by intro e;have:=congrArg List.length e;simp only[LO,List.length_take,Ma] at this;omega),if_pos h0,bh,a5,a5];simp[Atom.bytes]
 .obtain rfl:k=0:=ad;simp[ep,aV]
theorem yz(aW:List dt)(k:Nat):(jj (aW.take k)).length<=(jj (aW.take (k+1))).length:=by
 cases h:aW[k]? with
 | none=>rw[LS (i:=k+1) (by have:=List.getElem?_eq_none_iff.1 h;omega),LS (List.getElem?_eq_none_iff.1 h)];exact LK _
 | some a=>rw[rn h];simp
theorem xQ(aW:List dt):∀j k:Nat,(jj (aW.take k)).length<=(jj (aW.take (k+j))).length
 | 0,k=>LK _
 | j+1,k=>L6 (xQ aW j k) (yz aW (k+j))
theorem tM(aW:List dt)(aj:k<=aW.length):(jj (aW.take k)).length<=(h3 aW).length:=by
 have:=xQ aW (aW.length - k) k;rw[show k+(aW.length - k)=aW.length by omega,List.take_length] at this;rw[r6];simp;omega
def GS:dt->Prop
 | .mx r=>Fv r
 | .ex e=>∃N d,e.src N d
theorem sU(a:dt):(eU a).sz=7:=by
 cases a with
 | mx r=>rfl
 | ex e=>show D.zi [.b false,gj,bm e]=7;simp only[D.zi,df,D.sz,gj]
theorem dL{d:D}{l:List D}:D.aM w P (d::l) cs↔∃x y,cs=x++y/\d.rep w P x/\D.aM w P l y:=by simp only[D.aM]
theorem Gd(h:(eU (.mx r)).rep w P cs):∃s A n c e0 e1 e2 e3,cs=[.bool true,.string s,.slice A n c,e0,e1,e2,e3]/\(kL r).rep w P [.string s,.slice A n c]:=by
 unfold eU at h;rw[bN,fD] at h;obtain⟨y,rfl,h⟩:=h;obtain⟨x,cX,rfl,hx,bb⟩:=dL.1 h;obtain⟨A,n,c,rfl,hc,hs⟩:=jD.1 hx;rw[D.bg] at bb;obtain⟨A2,c2,rfl⟩:=fw.1 bb;exact⟨_,A,n,c,_,_,_,_,rfl,hx⟩
namespace Cc
theorem vK(h:p:=by
 obtain⟨A,n,c,bp,rfl,_,_,aL⟩:=aO.1 hx;rw[aR] at aL;subst aL;exact zW
 ):p:=h
end Cc
open Cc in
theorem Gc{e:VE}(h:(eU (.ex e)).rep w P cs):∃bl r1 op n s A m c,cs=[.bool false,bl,r1,.int .i64 op,.int .i64 n,.string s,.slice A m c]/\(bm e).rep w P [.int .i64 op,.int .i64 n,.string s,.slice A m c]:=by
 exact vJ
theorem sN(aW:List dt)(aA:∀a∈aW,GS a)(A:Mt)(n c:Nat)(w:World)(hs:Sl w (aq w) A n (aW.map eU))(hlen:(h3 aW).length<=262144)(hn:n<=1000) :
  Calls prog 141 #[.slice A n c] w λe ab=>e=.returned (.string (strOf (h3 aW)))/\Ext w ab:=by
 have hl:aW.length=n:=by rw[<-hs.1,LO]
 obtain⟨b6,bt,bf,F⟩:=iY hl hs aA hlen;clear hs aA hlen hl;go_enter func141,ntmps141;go_wp2;go_loopw [3,4] (λsv bH wr=>∃k:Nat,k<=n/\bH=.int .i64 k/\sv=.string (strOf (jj (aW.take k)))/\Ext w wr) (λ_ bH _=>n - (intOf bH).toNat)
 case atStart=>exact⟨0,ad,rfl,rfl,Mo⟩
 case round=>
  obtain⟨k,aj,rfl,rfl,aw⟩:=hrel;have br:=ae aw;clear aw;have aL:(strOf (jj (aW.take k))).size<=262144:=by
   rw[aP];exact L6 (tM aW (by rw[b6.o];exact aj)) F.o
  by_cases an:k<n
  .obtain⟨b,o,a,cs,rfl,O,aZ,Z,bh,a4⟩:=(bt.on (Fr.ext br.o)).hf sU an;have a1:b<wr:=O;have HA:=ae aZ;have i:=ae (rn aZ);have cx:=ae (bf.o a (LN aZ));have cA:(oo a).length<=262144:=by
    have ac:=tM aW (k:=k+1) (by rw[b6.o];exact an);rw[i.o] at ac;have ap:=F.o;simp at ac;omega
   have f:=ae cA;have cb:(strOf (oo a)).size<=262144:=by rw[aP];exact cA
   clear aZ cA O
   cases a with
   | mx r=>
    obtain⟨s,cM,bI,rc,e0,e1,e2,e3,rfl,ay⟩:=Gd Z;have c0:=a4 0 _ rfl;have c1:=a4 1 _ rfl;have c2:=a4 2 _ rfl;simp only[LW] at c0;have H:=ae ay;clear a4 Z ay;have l:=ae (show oo (.mx r)=[109,117,116,101,120,32]++gi r by
     unfold oo fR gi;rw[a5,a5];simp[kw,ga,Atom.bytes])
    have t:(gi r).length<=262144:=by
     have:=f.o;rw[l.o] at this;simp at this;omega
    have j:=ae t;have z:(strOf (gi r)).size<=262144:=by rw[aP];exact t
    clear t;by_cases h0:0<k
    ·
     have q:decide ((k:Int) > 0)=true:=by simp;omega
     have aK:=ae (show strOf (jj (aW.take k))++⟨#[44,32]⟩++⟨#[109,117,116,101,120,32]⟩++strOf (gi r)=strOf (jj (aW.take (k+1))) by
      rw[i.o,if_pos h0,l.o,show (⟨#[44,32]⟩:ByteArray)=strOf [44,32] from rfl,show (⟨#[109,117,116,101,120,32]⟩:ByteArray)=strOf [109,117,116,101,120,32] from rfl,ah,ah,ah]
      try simp)
     go_wp2_with(fail);refine(kS r cx.o s cM bI rc wr H.o j.o).mono ?_;rintro e aS ⟨rfl,ar⟩;have bB:=ae (br.trans ar);clear ar c0 c1 c2 br;exact xL
    ·
     have q:decide ((k:Int) > 0)=false:=by simp;omega
     have aK:=ae (show strOf (jj (aW.take k))++⟨#[109,117,116,101,120,32]⟩++strOf (gi r)=strOf (jj (aW.take (k+1))) by
      rw[i.o,if_neg h0,l.o,show (⟨#[109,117,116,101,120,32]⟩:ByteArray)=strOf [109,117,116,101,120,32] from rfl,ah,ah]
      try simp)
     go_wp2_with(fail);refine(kS r cx.o s cM bI rc wr H.o j.o).mono ?_;rintro e aS ⟨rfl,ar⟩;have bB:=ae (br.trans ar);clear ar c0 c1 c2 br
     exact xL
   | ex x=>
    obtain⟨bl,r1,op,bA,s,EA,em,ec,rfl,g⟩:=Gc Z;have c0:=a4 0 _ rfl;have c1:=a4 3 _ rfl;have c2:=a4 4 _ rfl;have c3:=a4 5 _ rfl;have I:=a4 6 _ rfl;simp only[LW] at c0;have m:=ae g;have z:(strOf (bY x)).size<=262144:=cb;obtain⟨N,d,hx⟩:=cx.o;have aN:=ae (jQ N d x hx);clear a4 Z g hx cx;by_cases h0:0<k
    ·
     have q:decide ((k:Int) > 0)=true:=by simp;omega
     have aK:=ae (show strOf (jj (aW.take k))++⟨#[44,32]⟩++strOf (bY x)=strOf (jj (aW.take (k+1))) by
      rw[i.o,show oo (.ex x)=bY x from rfl,if_pos h0,show (⟨#[44,32]⟩:ByteArray)=strOf [44,32] from rfl,ah,ah]
      try simp)
     go_wp2_with(fail);refine(aN.o op bA s EA em ec wr m.o f.o).mono ?_;rintro e aS ⟨rfl,ar⟩;have bB:=ae (br.trans ar);clear ar c0 c1 c2 c3 I br;exact xL
    ·
     have q:decide ((k:Int) > 0)=false:=by simp;omega
     have aK:=ae (show strOf (jj (aW.take k))++strOf (bY x)=strOf (jj (aW.take (k+1))) by
      rw[i.o,show oo (.ex x)=bY x from rfl,if_neg h0,ah]
      try simp)
     go_wp2_with(fail);refine(aN.o op bA s EA em ec wr m.o f.o).mono ?_;rintro e aS ⟨rfl,ar⟩;have bB:=ae (br.trans ar);clear ar c0 c1 c2 c3 I br;exact xL
  .obtain rfl:k=n:=ad;have aK:=ae (show strOf (jj (aW.take k))++⟨#[41]⟩=strOf (h3 aW) by
    rw[r6,<-b6.o,List.take_length,<-ah];rfl)
   go_wp2;go_ret;exact⟨ret_str aK.o,br.o⟩
inductive aD where
 | set (v:Bool) (n:ByteArray) (e:VE)
 | call (g:Bool) (n:ByteArray) (aW:List dt)
 | lock (u:Bool) (r:e4)
 | ite (e:VE) (th el:ao)
 | gI (e:VE) (th:ao)
 | ret
def ao.list:ao->List aD
 | .nil=>[]
 | .set v n e rest=>.set v n e::rest.list
 | .call g n aW rest=>.call g n aW::rest.list
 | .lock u r rest=>.lock u r::rest.list
 | .ite e th el rest=>.ite e th el::rest.list
 | .gI e th rest=>.gI e th::rest.list
 | .ret rest=>.ret::rest.list
def bj:aD->D
 | .set v n e=>gO (if v then 1 else 2) n (bm e) gj [] [] []
 | .call g n aW=>gO (if g then 4 else 3) n jU gj (aW.map eU) [] []
 | .lock u r=>gO (if u then 6 else 5) ⟨#[]⟩ jU (kL r) [] [] []
 | .ite e th el=>gO 7 ⟨#[]⟩ (bm e) gj [] (dc th) (dc el)
 | .gI e th=>gO 8 ⟨#[]⟩ (bm e) gj [] (dc th) []
 | .ret=>gO 9 ⟨#[]⟩ jU gj [] [] []
theorem cK:∀b:ao,dc b=b.list.map bj
 | .nil=>rfl
 | .set v n e rest=>by simp only[dc,ao.list,LQ,bj,cK rest]
 | .call g n aW rest=>by simp only[dc,ao.list,LQ,bj,cK rest]
 | .lock u r rest=>by simp only[dc,ao.list,LQ,bj,cK rest]
 | .ite e th el rest=>by simp only[dc,ao.list,LQ,bj,cK rest]
 | .gI e th rest=>by simp only[dc,ao.list,LQ,bj,cK rest]
 | .ret rest=>by simp only[dc,ao.list,LQ,bj,cK rest]
def dF(t:Nat):aD->List UInt8
 | .set v n e=>List.replicate t 9++((if v then [118,97,114,32] else [])++(n.data.toList++([32,61,32]++(bY e++[59,10]))))
 | .call g n aW=>List.replicate t 9++((if g then [103,111,32] else [])++(n.data.toList++(h3 aW++[59,10])))
 | .lock u r=>List.replicate t 9++((if u then [117,110,108,111,99,107,32] else [108,111,99,107,32])++(gi r++[59,10]))
 | .ite e th el=>List.replicate t 9++([105,102,32]++(bY e++([32,123,10]++(aV (aX (t+1) th)++(List.replicate t 9++([125] ++
   ((if el.isNil then [] else [32,101,108,115,101,32,123,10]++(aV (aX (t+1) el)++(List.replicate t 9++[125])))++[10])))))))
 | .gI e th=>List.replicate t 9++([119,104,105,108,101,32]++(bY e++([32,123,10]++(aV (aX (t+1) th)++(List.replicate t 9++[125,10])))))
 | .ret=>List.replicate t 9++[114,101,116,117,114,110,59,10]
def cI(t:Nat)(b:ao):List UInt8:=aV (aX t b)
theorem fU(t:Nat):aV (fM t)=List.replicate t 9:=by
 induction t with
 | zero=>rfl
 | succ t Z=>unfold fM at *;rw[List.replicate_succ,a5,Z];rfl
theorem rv:aV []=[]:=rfl
theorem e6(t:Nat):∀b:ao,cI t b=(b.list.map (dF t)).flatten
 | .nil=>rfl
 | .set v n e rest=>by
  have Z:=e6 t rest;unfold cI at *;simp only[aX,ao.list,LQ,List.flatten_cons,<-Z,dF,bh,a5,fU,bY]
  cases v<;>simp[Atom.bytes,kw,aV]
 | .call g n aW rest=>by
  have Z:=e6 t rest;unfold cI at *;simp only[aX,ao.list,LQ,List.flatten_cons,<-Z,dF,bh,a5,fU,h3]
  cases g<;>simp[Atom.bytes,kw,aV]
 | .lock u r rest=>by
  have Z:=e6 t rest;unfold cI at *;simp only[aX,ao.list,LQ,List.flatten_cons,<-Z,dF,bh,a5,fU,gi]
  cases u<;>simp[Atom.bytes,kw,aV]
 | .ite e th el rest=>by
  have Z:=e6 t rest;unfold cI at *;simp only[aX,ao.list,LQ,List.flatten_cons,<-Z,dF,bh,a5,fU,bY];cases hn:el.isNil
  .simp only[Mm,if_false,bh,a5,fU];simp[Atom.bytes,kw,rv]
  .simp only[if_true]
   simp[Atom.bytes,kw,rv]
 | .gI e th rest=>by
  have Z:=e6 t rest;unfold cI at *;simp only[aX,ao.list,LQ,List.flatten_cons,<-Z,dF,bh,a5,fU,bY]
  simp[Atom.bytes,kw]
 | .ret rest=>by
  have Z:=e6 t rest;unfold cI at *;simp only[aX,ao.list,LQ,List.flatten_cons,<-Z,dF,bh,a5,fU];simp[Atom.bytes,kw]
def aD.kind:aD->Int
 | .set v _ _=>if v then 1 else 2
 | .call g _ _=>if g then 4 else 3
 | .lock u _=>if u then 6 else 5
 | .ite ..=>7
 | .gI ..=>8
 | .ret=>9
def aD.name:aD->ByteArray
 | .set _ n _=>n
 | .call _ n _=>n
 | _=>⟨#[]⟩
def aD.expr:aD->Option VE
 | .set _ _ e=>some e
 | .ite e _ _=>some e
 | .gI e _=>some e
 | _=>none
def aD.ref:aD->Option e4
 | .lock _ r=>some r
 | _=>none
def aD.args:aD->List dt
 | .call _ _ aW=>aW
 | _=>[]
def aD.th:aD->ao
 | .ite _ th _=>th
 | .gI _ th=>th
 | _=>.nil
def aD.el:aD->ao
 | .ite _ _ el=>el
 | _=>.nil
def pT:Option e4->D
 | none=>gj
 | some r=>kL r
theorem rG(s:aD):bj s=gO s.kind s.name (oD s.expr) (pT s.ref) (s.args.map eU) (dc s.th) (dc s.el):=by
 cases s<;>rfl
theorem nu(s:aD):(bj s).sz=11:=by
 rw[rG];have ac:(oD s.expr).sz=4:=by
  cases s.expr with
  | none=>rfl
  | some x=>exact df x
 have ap:(pT s.ref).sz=2:=by cases s.ref<;>rfl
 unfold gO;simp only[D.sz,D.zi,ac,ap]
theorem pU{x:Option VE}(h:(oD x).rep w P cs):∃o n s A m c,cs=[.int .i64 o,.int .i64 n,.string s,.slice A m c]:=by
 cases x with
 | none=>obtain⟨A,c,rfl⟩:=fw.1 h;exact⟨_,_,_,_,_,_,rfl⟩
 | some x=>obtain⟨A,n,c,rfl,_⟩:=aZ.1 h;exact⟨_,_,_,_,_,_,rfl⟩
theorem tT{x:Option e4}(h:(pT x).rep w P cs):∃s A m c,cs=[.string s,.slice A m c]:=by
 cases x with
 | none=>
  unfold pT gj at h;rw[bN,cu] at h;obtain⟨z,rfl,hx⟩:=h;obtain⟨A,n,c,bp,rfl,_,_,aL⟩:=aO.1 hx;rw[aR] at aL;subst aL
  exact⟨_,_,_,_,rfl⟩
 | some x=>obtain⟨A,n,c,rfl,_⟩:=jD.1 h;exact⟨_,_,_,_,rfl⟩
structure Jj(w:World)(P:Nat->Prop)(s:aD)(eo en:Int)(es:ByteArray)(EA:Mt)(em ec:Nat)(rs:ByteArray)(cM:Mt)(di rc:Nat)(cR:Mt)(n1:Nat)(A2:Mt)(n2:Nat)(cC:Mt)(n3:Nat):Prop where
 expr:(oD s.expr).rep w P [.int .i64 eo,.int .i64 en,.string es,.slice EA em ec]
 ref:(pT s.ref).rep w P [.string rs,.slice cM di rc]
 args:Sl w P cR n1 (s.args.map eU)
 th:Sl w P A2 n2 (dc s.th)
 el:Sl w P cC n3 (dc s.el)
theorem lx{s:aD}(h:(bj s).rep w P cs):∃eo en es EA em ec rs cM di rc cR n1 c1 A2 n2 c2 cC n3 c3,
  cs=[.int .i64 s.kind,.string s.name,.int .i64 eo,.int .i64 en,.string es,.slice EA em ec,.string rs,.slice cM di rc,.slice cR n1 c1,.slice A2 n2 c2,.slice cC n3 c3]/\
  Jj w P s eo en es EA em ec rs cM di rc cR n1 A2 n2 cC n3:=by
 rw[rG] at h;unfold gO at h;rw[bN,bo] at h;obtain⟨y,rfl,h⟩:=h;rw[cu] at h;obtain⟨cX,rfl,h⟩:=h;obtain⟨E,bx,rfl,he,h⟩:=dL.1 h;obtain⟨av,bK,rfl,a5,h⟩:=dL.1 h;obtain⟨cR,n1,c1,a,rfl,_,ac,h⟩:=aO.1 h;obtain⟨A2,n2,c2,b,rfl,_,ap,h⟩:=aO.1 h;obtain⟨cC,n3,c3,d,rfl,_,aV,h⟩:=aO.1 h;rw[aR] at h;subst h;obtain⟨o,n,s,A,m,c,rfl⟩:=pU he;obtain⟨Q,I,b4,aE,rfl⟩:=tT a5
 iterate 19 apply Exists.intro
 exact⟨rfl,he,a5,ac,ap,aV⟩
def nM:ao->Prop
 | .nil=>True
 | .set _ _ e rest=>(∃N d,e.src N d)/\nM rest
 | .call _ _ aW rest=>((∀a∈aW,GS a)/\aW.length<=1000)/\nM rest
 | .lock _ r rest=>Fv r/\nM rest
 | .ite e th el rest=>(∃N d,e.src N d)/\nM th/\nM el/\nM rest
 | .gI e th rest=>(∃N d,e.src N d)/\nM th/\nM rest
 | .ret rest=>nM rest
def hJ(b:ao):Prop:=∀(t:Nat) (A:Mt) (n c:Nat) (w:World),t+b.num<=1000000->Sl w (aq w) A n (dc b)->(cI t b).length<=262144->
 Calls prog 117 #[.slice A n c,.string (strOf (List.replicate t 9))] w λe ab=>e=.returned (.string (strOf (cI t b)))/\Ext w ab
structure vp(s:aD)(N:Nat):Prop where
 expr:∀e,s.expr=some e->∃N d,e.src N d
 ref:∀r,s.ref=some r->Fv r
 args:∀a∈s.args,GS a
 ja:s.args.length<=1000
 th:hJ s.th
 el:hJ s.el
 IF:s.th.num<N\/s.th=.nil
 IE:s.el.num<N\/s.el=.nil
theorem ho{α:Type}{x:α}(h:(none:Option α)=some x):p:=by cases h
theorem KD(f:∀b:ao,(∀s∈b.list,vp s b.num)->hJ b):∀b:ao,nM b->hJ b/\∀s∈b.list,vp s b.num:=by
 have mono:∀{s:aD} {n m:Nat},n<=m->vp s n->vp s m:=λh k=>⟨k.expr,k.ref,k.args,k.ja,k.th,k.el,k.IF.imp (λx=>LL x h) id,k.IE.imp (λx=>LL x h) id⟩
 have c:hJ .nil:=f .nil λs hs=>by simp[ao.list] at hs
 have fin:∀b:ao,(∀s∈b.list,vp s b.num)->hJ b/\∀s∈b.list,vp s b.num:=λb h=>⟨f b h,h⟩
 intro b
 induction b with
 | nil=>exact λ_=>fin _ λs hs=>by simp[ao.list] at hs
 | set v n e rest Z=>
  intro h;refine fin _ λs hs=>?_;rcases L5.1 hs with rfl|hs
  .exact⟨λl he=>(by cases he;exact h.1),λr a5=>ho a5,λa aZ=>(nomatch aZ),by simp[aD.args],c,c,.inr rfl,.inr rfl⟩
  .exact mono (by simp[ao.num]) ((Z h.2).2 s hs)
 | call g n aW rest Z=>
  intro h;refine fin _ λs hs=>?_;rcases L5.1 hs with rfl|hs
  .exact⟨λl he=>ho he,λr a5=>ho a5,h.1.1,h.1.2,c,c,.inr rfl,.inr rfl⟩
  .exact mono (by simp[ao.num]) ((Z h.2).2 s hs)
 | lock u r rest Z=>
  intro h;refine fin _ λs hs=>?_;rcases L5.1 hs with rfl|hs
  .exact⟨λl he=>ho he,λd a5=>(by cases a5;exact h.1),λa aZ=>(nomatch aZ),by simp[aD.args],c,c,.inr rfl,.inr rfl⟩
  .exact mono (by simp[ao.num]) ((Z h.2).2 s hs)
 | ite e th el rest j o Z=>
  intro h;refine fin _ λs hs=>?_;rcases L5.1 hs with rfl|hs
  .exact⟨λl he=>(by cases he;exact h.1),λr a5=>ho a5,λa aZ=>(nomatch aZ),by simp[aD.args],(j h.2.1).1,(o h.2.2.1).1,.inl (by simp[aD.th,ao.num];omega),.inl (by simp[aD.el,ao.num];omega)⟩
  .exact mono (by simp[ao.num];omega) ((Z h.2.2.2).2 s hs)
 | gI e th rest j Z=>
  intro h;refine fin _ λs hs=>?_;rcases L5.1 hs with rfl|hs
  .exact⟨λl he=>(by cases he;exact h.1),λr a5=>ho a5,λa aZ=>(nomatch aZ),by simp[aD.args],(j h.2.1).1,c,.inl (by simp[aD.th,ao.num];omega),.inr rfl⟩
  .exact mono (by simp[ao.num];omega) ((Z h.2.2).2 s hs)
 | ret rest Z=>
  intro h;refine fin _ λs hs=>?_;rcases L5.1 hs with rfl|hs
  .exact⟨λl he=>ho he,λr a5=>ho a5,λa aZ=>(nomatch aZ),by simp[aD.args],c,c,.inr rfl,.inr rfl⟩
  .exact mono (by simp[ao.num]) ((Z h).2 s hs)
end Go.Proofs.YtpkfopfkdgkfkaaGreat
