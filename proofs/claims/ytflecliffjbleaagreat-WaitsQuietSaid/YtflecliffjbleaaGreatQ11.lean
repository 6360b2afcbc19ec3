/- Part 11 of the proof. No condition of its own. -/
import Derived.Test.YtflecliffjbleaaGreatQ07
import Derived.Test.YtflecliffjbleaaGreatQ10
namespace Go.Proofs.YtflecliffjbleaaGreat
open Go.RowKit Go.Proofs.Tryz
set_option maxRecDepth 1000000
set_option maxHeartbeats 25600000
set_option linter.unusedVariables false
variable{op:Int}{l:List UInt8}{cs:List Value}{B N base g k m n:Nat}{M P:Nat->Prop}{p:Prop}{e t:TypeId}{x y:VE}{ac w:World}{r:eN}
def byteOf(v:Int):UInt8:=UInt8.ofNat v.toNat
theorem k7(W:World)(v:Int):(convert 78 9 (.slice (some ⟨W.heap.size,0,none⟩) 1 1)).run prog (W.alloc (.cells #[.int .u8 v] 5))=.ok (.string (strOf [byteOf v])) (W.alloc (.cells #[.int .u8 v] 5)):=by
 have:=run_convert_bytes_arg (P:=prog) (W.alloc (.cells #[.int .u8 v] 5)) 78 5 Tryz.underlying78 Tryz.underlying5 W.heap.size 0 1 1 [v] rfl (λi ak=>by
  have:i=0:=ab;subst this;rw[(an.new W 5 #[.int .u8 v]).cell];rfl) 9 Tryz.underlying9
 rw[this];rfl
theorem aH(l:List UInt8):(strOf l).size=l.length:=by simp[strOf,ByteArray.size]
theorem pN(m:Nat):byteOf (48+((m:Int) % 10))=UInt8.ofNat (48+m % 10):=by
 unfold byteOf;congr 1
theorem ret_str{a b:ByteArray}(h:a=b):Ending.returned (.string a)=.returned (.string b):=by rw[h]
theorem af(a b:List UInt8):strOf a++strOf b=strOf (a++b):=by
 unfold strOf;rw[ByteArray.ext_iff];simp
def je(N m:Nat)(l:List UInt8):Prop:=jy N=(if m=0 then [] else jy m)++l
theorem rL(N:Nat):je N (N / 10) [UInt8.ofNat (48+N % 10)]:=by
 unfold je;rw[jy];split
 .rename_i h;rw[if_pos ab,show N % 10=N by omega];rfl
 .rw[if_neg ab]
theorem Dc(h:je N m l)(hm:0<m):je N (m / 10) (UInt8.ofNat (48+m % 10)::l):=by
 unfold je at *;rw[if_neg ab] at h;rw[h];have:=rL m;unfold je at this;rw[this];simp
theorem E4(h:je N m l)(hN:N<=9223372036854775808):l.length<=20:=by
 have:=jz 19 N ab;unfold je at h;rw[h,Ld] at this;omega
theorem pU(N:Nat)(w:World)(hN:N<=9223372036854775808) :
  Calls prog 145 #[.int .u64 N] w λe ac=>e=.returned (.string (strOf (jy N)))/\Below w.heap.size w ac:=by
 have kc:=k7 w;go_enter func145,ntmps145;go_wp2;go_loopw [0,3] (λa sv wr=>∃(m:Nat) (l:List UInt8),a=.int .u64 m/\sv=.string (strOf l)/\m<=N/\je N m l/\Below w.heap.size w wr) (λa _ _=>(intOf a).toNat)
 case atStart=>exact⟨N / 10,[byteOf (48+(N:Int) % 10)],by simp,rfl,ab,by rw[pN];exact rL N,(Below.refl _ _).alloc (Lb _) _⟩
 case round=>
  obtain⟨m,l,rfl,rfl,hm,aQ,O⟩:=hrel;obtain⟨aZ,bx⟩:=aM aQ O;have hl:=E4 aQ hN;clear aQ O kc;have kc:=k7 wr;by_cases h0:0<m
  .have q:decide ((m:Int) > 0)=true:=by simp;omega
   have aq:decide (m > 0)=true:=by simp;omega
   have ba:(strOf l).size<=20:=by rw[aH];omega
   have S:(strOf [byteOf (48+(m:Int) % 10)]).size<=1:=by rw[aH];simp
   go_wp2;go_roundw
   case rel=>exact⟨m / 10,byteOf (48+(m:Int) % 10)::l,by simp,by rw[af];rfl,ab,by rw[pN];exact Dc aZ.o h0,bx.alloc bx.size _⟩
   case measure=>exact az
  .have fW:m=0:=ab;have a8:=ad (show jy N=l by have:=aZ.o;unfold je at this;rw[if_pos fW] at this;simpa using this);have q:decide ((m:Int) > 0)=false:=by simp;omega
   clear fW;go_wp2;go_ret;exact⟨ret_str (by rw[a8.o]),bx.o⟩
def lW(n:Int):List UInt8:=aU (hv n)
theorem zm{n:Int}(h:n<0):lW n=45::jy n.natAbs:=by unfold lW hv;rw[if_pos h];simp[aU,Atom.bytes]
theorem vm{n:Int}(h:0<=n):lW n=jy n.toNat:=by unfold lW hv;rw[if_neg ab];simp[aU,Atom.bytes]
theorem ml(n:Int)(w:World)(h:-9223372036854775808<=n/\n<=9223372036854775807) :
  Calls prog 130 #[.int .i64 n] w λe ac=>e=.returned (.string (strOf (lW n)))/\Below w.heap.size w ac:=by
 by_cases hn:n<0
 .obtain⟨m,rfl⟩:∃m:Nat,n = -((m:Int)+1):=⟨(-(n+1)).toNat,ab⟩
  have hm:m<=9223372036854775807:=ab;have L:=ad (zm hn);clear hn h;go_enter func130,ntmps130;go_wp2_with(fail);rw[show (-(-((m:Int)+1)+1)+1)=((m+1:Nat):Int) by omega];refine(pU (m+1) w ab).mono ?_;rintro e ac ⟨rfl,O⟩;have bx:=ad O;clear O;have ba:(strOf (jy (m+1))).size<=20:=by rw[aH];exact jz 19 _ ab
  go_wp2;go_ret;exact⟨ret_str (by rw[L.o,show (-((m:Int)+1)).natAbs=m+1 by omega];exact af [45] _),bx.o⟩
 .obtain⟨m,rfl⟩:=Lg (show 0<=n by omega);have L:=ad (vm (n:=(m:Int)) ab);clear hn;go_enter func130,ntmps130;go_wp2_with(fail);refine(pU m w ab).mono ?_;rintro e ac ⟨rfl,O⟩;have bx:=ad O;clear O;go_wp2;go_ret;exact⟨ret_str (by rw[L.o,Lw]),bx.o⟩
def na:Nat->List (List UInt8×Int)
 | 0=>[([124,124],17)]
 | 1=>[([38,38],16)]
 | 2=>[([61,61],14),([33,61],15),([60],10),([60,61],11),([62],12),([62,61],13)]
 | 3=>[([43],8),([45],9)]
 | _=>[([42],5),([47],6),([37],7)]
def HP(k:Nat):List ByteArray:=(na k).map λp=>strOf p.1
def nT(k:Nat):List Int:=(na k).map (·.2)
theorem Ef{cs:Array Value}{l:List Int}(h:an w g t cs)(hc:cs=(l.map (Value.int .i64)).toArray)(hl:l.length=n)(aN:g<B):cK (EF b5) 1 w B (some ⟨g,0,none⟩) n l:=by
 subst hc;refine⟨hl,λ_=>⟨g,0,rfl,aN,λk x hx=>⟨b5 x,rfl,rfl,λj v bd=>?_⟩⟩⟩;have b9:j=0/\v=.int .i64 x:=by
  cases j with
  | zero=>simp[b5] at bd;exact⟨rfl,bd.symm⟩
  | succ j=>simp[b5] at bd
 obtain⟨rfl,rfl⟩:=b9;rw[h.cell];simp[hx]
theorem Eg{cs:Array Value}{l:LQ}(h:an w g t cs)(hc:cs=(l.map Value.string).toArray)(hl:l.length=n)(aN:g<B):cK (EF oF) 1 w B (some ⟨g,0,none⟩) n l:=by
 subst hc;refine⟨hl,λ_=>⟨g,0,rfl,aN,λk x hx=>⟨oF x,rfl,rfl,λj v bd=>?_⟩⟩⟩;have b9:j=0/\v=.string x:=by
  exact zO
 obtain⟨rfl,rfl⟩:=b9;rw[h.cell];simp[hx]
def zy(w:World)(k:Nat)(e:Ending)(ac:World):Prop:=
 ∃A B n,n<=6/\e=.returned (.tuple #[.slice A n n,.slice B n n])/\cK (EF oF) 1 ac ac.heap.size A n (HP k)/\cK (EF b5) 1 ac ac.heap.size B n (nT k)/\Ext w ac
theorem se(k:Nat)(ai:k<=4)(w:World):Calls prog 142 #[.int .i64 k] w (zy w k):=by
 obtain rfl|rfl|rfl|rfl|rfl:k=0\/k=1\/k=2\/k=3\/k=4:=ab
 all_goals
  clear ai;go_enter func142,ntmps142;go_wp2
  go_ret2
  generalize be:World.alloc (World.alloc w _) _=W;refine⟨some ⟨w.heap.size,0,none⟩,some ⟨w.heap.size+1,0,none⟩,_,by decide,rfl,Eg (t:=9) (cs:=((HP _).map Value.string).toArray) ?_ rfl rfl ?_,Ef (t:=3) (cs:=((nT _).map (Value.int .i64)).toArray) ?_ rfl rfl ?_,?_⟩
  .rw[<-be];exact(LM).alloc _
  .rw[<-be];simp;omega
  .rw[<-be];exact an.hY _ _ _ (by simp)
  .rw[<-be];simp
  .rw[<-be];exact(LL.alloc _).alloc _
theorem EV(ai:k<=4)(h:op∈nT k):cU op=k:=by
 obtain rfl|rfl|rfl|rfl|rfl:k=0\/k=1\/k=2\/k=3\/k=4:=ab
 all_goals
  simp[nT,na] at h;unfold cU
  repeat' split
  all_goals omega
theorem C3(h:∀k:Nat,k<5->op∉nT k):cU op=if op=3\/op=4 then 5 else 6:=by
 have h0:=h 0 ab;have ae:=h 1 ab;have aD:=h 2 ab;have aU:=h 3 ab;have a1:=h 4 ab;simp[nT,na] at h0 ae aD aU a1;unfold cU;rw[if_neg ab,if_neg ab,if_neg ab,if_neg ab,if_neg ab]
theorem gk(op:Int)(w:World):Calls prog 154 #[.int .i64 op] w λe ac=>e=.returned (.int .i64 (cU op))/\Ext w ac:=by
 go_enter func154,ntmps154;go_wp2;go_loopw [3] (λbc wr=>∃k:Nat,k<=5/\bc=.int .i64 k/\(∀i:Nat,i<k->op∉nT i)/\Ext w wr) (λbc _=>6 - (intOf bc).toNat)
 case atStart=>exact⟨0,ab,rfl,λi h=>ab,LL⟩
 case round=>
  obtain⟨k,ai,rfl,a9,O⟩:=hrel;obtain⟨bx,bY⟩:=aM O a9;clear O a9;by_cases aw:k<5
  .have q:decide ((k:Int)<5)=true:=by simp;omega
   go_wp2_with(fail);refine(se k ab _).mono ?_;rintro e aV ⟨A,B,n,hn,rfl,hs,bl,he⟩;have bq:=ah bl he;clear hs bl he;go_wp2_with(fail)
   go_loop [6] (λce=>∃j:Nat,j<=n/\ce=.int .i64 j/\∀(i:Nat) (x:Int),i<j->(nT k)[i]?=some x->x≠op) (λce=>n - (intOf ce).toNat)
   case atStart=>exact⟨0,ab,rfl,λi x h=>ab⟩
   case round=>
    obtain⟨j,bd,rfl,a6⟩:=hrel;have a8:=ad a6;clear a6;by_cases Q:j<n
    .obtain⟨b,o,x,rfl,al,hx,hc⟩:=bq.1.int Q;have aR:=ad hx;clear hx;by_cases rb:x=op
     .have q1:(x == op)=true:=by simpa using rb
      have aZ:=ad (EV (op:=op) (k:=k) ab (by rw[<-rb];exact Le aR.o));clear rb;go_wp2;go_ret;exact⟨ret_int aZ.symm,bx.trans bq.2⟩
     .have q1:(x == op)=false:=by simpa using rb
      have V:=ad rb;clear rb;go_wp2
      go_round
      case rel=>exact⟨j+1,ab,by go_num,λi y ak a4=>by
       by_cases v:i=j
       .subst v;rw[aR.o] at a4;injection a4 with a4;subst a4;exact V.o
       .exact a8.o i y ab a4⟩
      case measure=>exact az
    .have c:j=n:=ab;have co:=ad (show op∉nT k from λhm=>by
      obtain⟨i,ak⟩:=List.getElem?_of_mem hm;have aw:=(List.getElem?_eq_some_iff.1 ak).1;have hl:=bq.1.1;exact a8.o i op ab ak rfl)
     have cp:decide ((j:Int)<(n:Int))=false:=by simp;omega
     clear c;go_wp2;go_roundw
     case rel=>exact⟨k+1,ab,by go_num,λi ak=>by
      by_cases b1:i=k
      .subst b1;exact co.o
      .exact bY.o i ab,bx.trans bq.2⟩
     case measure=>exact az
  .have aS:k=5:=ab;have aZ:=ad (C3 (op:=op) (λi ak=>bY.o i ab));subst aS;by_cases aU:op=3\/op=4
   .have a5:=ad (aZ.trans (if_pos aU));rcases aU with rfl|rfl
    all_goals
     go_wp2;go_ret;exact⟨ret_int a5.symm,bx.o⟩
   .have a5:=ad (aZ.trans (if_neg aU));have cw:(op == 3)=false:=by simp;omega
    have cO:(op == 4)=false:=by simp;omega
    clear aU;go_wp2;go_ret;exact⟨ret_int a5.symm,bx.o⟩
theorem Fp(x:VE):x.aZ=aZ x:=by cases x<;>rfl
theorem rX(op n N:Int)(nm:ByteArray)(b o m c:Nat)(k:Nat)(w:World)(ai:k<=1)(H:k<m)(O:b<w.heap.size)(hc:w.cell? ⟨b,o+k*4,none⟩=some (.int .i64 N)) :
  Calls prog 155 #[.agg #[.int .i64 op,.int .i64 n,.string nm,.slice (some ⟨b,o,none⟩) m c],.int .i64 k] w λe ac=>e=.returned (.bool (dx op N (k == 1)))/\Ext w ac:=by
 have cE:(0:Int)<=(k:Int):=ab;have cd:(k:Int)<(m:Int):=ab;go_enter func155,ntmps155;go_wp2;generalize be:World.alloc _ _=W;have aE:=bb be;obtain⟨a0,ap,aj⟩:=(show an W w.heap.size 56 #[.int .i64 op,.int .i64 n,.string nm,.slice (some ⟨b,o,none⟩) m c] by rw[<-be];exact LM).two;have a9:=(aE.cell (j:=o+k*4) O (λh=>h)).trans hc;have f:b<W.heap.size:=Lc O aE.size;have a8:=ad aE;clear be aE hc;refine eU (λ_=>False) [(0,3),(1,0),(2,3),(3,3),(4,3),(5,0),(7,3),(8,0),(6,1),(9,2),(10,3),(11,3)] ?_;refine pf ?_;refine ph ?_
 iterate 3 refine pf ?_
 refine ph ?_;refine pf ?_;refine ph ?_;refine aO rfl (λK hK=>?_);go_simp;refine(gk N _).mono ?_;rintro e aP ⟨rfl,ar⟩;refine ei hK (ar) ?_;clear hK K;have bs:=ad (a8.trans (Fr.aQ ar));clear ar;refine aq rfl (λK hK=>?_);go_simp;refine(gk op _).mono ?_;rintro e aV ⟨rfl,bU⟩;refine eL hK ?_;clear hK K;have a7:=ad (bs.trans bU);clear bU a0 ap aj a9
 iterate 2 refine pf ?_
 refine aB ?_;have bx:=ad (show dx op N (k == 1)=(decide (cU N<cU op) || (cU N == cU op && k == 1)) from rfl);generalize cU N=x at *;generalize cU op=y at *;by_cases ae:x<y
 .have aZ:=ad (show dx op N (k == 1)=true by rw[bx.o];simp[ae]);clear bx;exact sx
 have q1:decide (x<y)=false:=by simpa using ae
 by_cases aD:x=y
 .have cp:(x == y)=true:=by simpa using aD
  by_cases aU:k=1
  .have aZ:=ad (show dx op N (k == 1)=true by rw[bx.o];simp[aD,aU]);have cw:((k:Int) == 1)=true:=by simp;omega
   have a:(k == 1)=true:=by simp;omega
   clear bx ae aD aU;exact sx
  .have aZ:=ad (show dx op N (k == 1)=false by rw[bx.o];simp[aD,aU]);have cw:((k:Int) == 1)=false:=by simp;omega
   have a:(k == 1)=false:=by simp;omega
   clear bx ae aD aU;exact sx
 .have cp:(x == y)=false:=by simpa using aD
  have aZ:=ad (show dx op N (k == 1)=false by rw[bx.o];simp[ae,aD]);clear bx ae aD;exact sx
theorem kB:ca prog 171 9 (.string ⟨#[]⟩) 1 16:=ca.mk' Tryz.underlying171 (by kernel_rfl) rfl ab
def bR(x:VE):List UInt8:=aU (cd x)
def gr(op:Int)(k:Nat)(y:VE):List UInt8:=aU (par (dx op (aZ y) (k == 1)) (cd y))
def gw:VE->List (List UInt8)
 | .un op x=>[gr op 0 x]
 | .bin op x y=>[gr op 0 x,gr op 1 y]
 | _=>[]
theorem xK(op:Int)(k:Nat)(y:VE):gr op k y=if dx op (aZ y) (k == 1) then 40::(bR y++[41]) else bR y:=by
 unfold gr par bR;split
 .rw[aY,a2];rfl
 .rfl
theorem xL(op:Int)(k:Nat)(y:VE):(bR y).length<=(gr op k y).length:=by
 rw[xK];split<;>simp
 omega
theorem yl(op:Int)(x:VE):bR (.un op x)=(if op=3 then 45 else 33)::gr op 0 x:=by
 unfold bR cd gr;rw[aY];split<;>rfl
theorem vd(op:Int)(x y:VE):bR (.bin op x y)=gr op 0 x++32::(gM op++32::gr op 1 y):=by
 unfold bR cd gr;rw[a2,aY,aY,aY];rfl
theorem kC(x:VE){t:List UInt8}(h:(gw x)[k]?=some t):t.length<=(bR x).length:=by
 cases x with
 | un op x=>
  rw[yl]
  match k,h with
  | 0,h=>simp[gw] at h;subst h;simp
 | bin op x y=>
  rw[vd]
  match k,h with
  | 0,h=>simp[gw] at h;subst h;simp
  | 1,h=>simp[gw] at h;subst h;simp;omega
 | num n=>simp[gw] at h
 | gT n=>simp[gw] at h
 | loc n=>simp[gw] at h
 | iz n=>simp[gw] at h
theorem mG(x:VE)(h:x.args[k]?=some y):(gw x)[k]?=some (gr x.aZ k y)/\k<=1:=by
 cases x with
 | un op x=>
  match k,h with
  | 0,h=>simp[VE.args] at h;subst h;simp[gw,VE.aZ]
 | bin op x y=>
  match k,h with
  | 0,h=>simp[VE.args] at h;subst h;simp[gw,VE.aZ]
  | 1,h=>simp[VE.args] at h;subst h;simp[gw,VE.aZ]
 | num n=>simp[VE.args] at h
 | gT n=>simp[VE.args] at h
 | loc n=>simp[VE.args] at h
 | iz n=>simp[VE.args] at h
theorem yv(x:VE):(gw x).length=x.args.length:=by cases x<;>rfl
theorem tO(x:VE):x.args.length<=2:=by cases x<;>simp[VE.args]
theorem qT{N:LQ}{d:Nat}(h:x.src N (d+1))(a4:x.args[k]?=some y):y.src N d:=by
 cases x with
 | un op x=>
  match k,a4 with
  | 0,a4=>simp[VE.args] at a4;subst a4;exact h.2
 | bin op x y=>
  match k,a4 with
  | 0,a4=>simp[VE.args] at a4;subst a4;exact h.2.1
  | 1,a4=>simp[VE.args] at a4;subst a4;exact h.2.2
 | num n=>simp[VE.args] at a4
 | gT n=>simp[VE.args] at a4
 | loc n=>simp[VE.args] at a4
 | iz n=>simp[VE.args] at a4
theorem qU{N:LQ}(h:x.src N 0):x.args=[]:=by
 cases x with
 | un op x=>exact h.elim
 | bin op x y=>exact h.elim
 | num n=>rfl
 | gT n=>rfl
 | loc n=>rfl
 | iz n=>rfl
theorem FN{i:Nat}(h:5<=op/\op<=17)(ak:(nT (cU op).toNat)[i]?=some op):(HP (cU op).toNat)[i]?=some (strOf (gM op)):=by
 obtain⟨ae,aD⟩:=h;obtain rfl|rfl|rfl|rfl|rfl|rfl|rfl|rfl|rfl|rfl|rfl|rfl|rfl:op=5\/op=6\/op=7\/op=8\/op=9\/op=10\/op=11\/op=12\/op=13\/op=14\/op=15\/op=16\/op=17:=ab
 all_goals
  match i,ak with
  | 0,ak=>first|rfl|(exact absurd ak (by decide))
  | 1,ak=>first|rfl|(exact absurd ak (by decide))
  | 2,ak=>first|rfl|(exact absurd ak (by decide))
  | 3,ak=>first|rfl|(exact absurd ak (by decide))
  | 4,ak=>first|rfl|(exact absurd ak (by decide))
  | 5,ak=>first|rfl|(exact absurd ak (by decide))
  | i+6,ak=>simp[nT,na,cU] at ak
theorem uW(h:5<=op/\op<=17):∃k:Nat,k<=4/\cU op=k/\op∈nT k:=by
 obtain⟨ae,aD⟩:=h;obtain rfl|rfl|rfl|rfl|rfl|rfl|rfl|rfl|rfl|rfl|rfl|rfl|rfl:op=5\/op=6\/op=7\/op=8\/op=9\/op=10\/op=11\/op=12\/op=13\/op=14\/op=15\/op=16\/op=17:=ab
 all_goals first|exact⟨0,ab,rfl,by decide⟩|exact⟨1,ab,rfl,by decide⟩|exact⟨2,ab,rfl,by decide⟩|exact⟨3,ab,rfl,by decide⟩|exact⟨4,ab,rfl,by decide⟩
def zA(x:VE):Prop:=∀(op n:Int) (s:ByteArray) (A:LP) (m c:Nat) (w:World),(bf x).rep w (au w) [.int .i64 op,.int .i64 n,.string s,.slice A m c]->(bR x).length<=262144->
 Calls prog 146 #[.agg #[.int .i64 op,.int .i64 n,.string s,.slice A m c]] w λe ac=>e=.returned (.string (strOf (bR x)))/\Ext w ac
theorem w8{l:List (List UInt8)}{t:List UInt8}(h:l[k]?=some t):(l.take (k+1)).map (λt=>Value.string (strOf t))=(l.take k).map (λt=>Value.string (strOf t))++[Value.string (strOf t)]:=by
 rw[List.take_add_one,h,Li];rfl
theorem Dp(l:LQ):l.flatMap oF=l.map Value.string:=by
 induction l with
 | nil=>rfl
 | cons a l ao=>rw[Lv,ao];rfl
theorem y9{A:LP}{c:Nat}{l:List (List UInt8)}(h:w.ownsRow base e 1 (.slice A n c) n (l.map λt=>Value.string (strOf t)))(hl:l.length=n):cK (EF oF) 1 w w.heap.size A n (l.map strOf):=
 g6 (f:=oF) (l:=l.map strOf) (by rw[Dp,List.map_map];exact h) (λ_ _=>rfl) (by rw[Lf];exact hl)
structure py(w wr:World)(x:VE)(A:LP)(m c:Nat):Prop where
 ext:Ext w wr
 blk:an wr w.heap.size 56 #[.int .i64 x.aZ,.int .i64 x.numOf,.string x.bk,.slice A m c]
 args:Sl wr (au w) A m (x.args.map bf)
theorem py.on{w wr ac:World}{x:VE}{A:LP}{m c:Nat}(h:py w wr x A m c)(O:Fr (λb=>w.heap.size<b) wr ac):py w ac x A m c:=
 ⟨⟨O.os.trans h.ext.os,O.tape.trans h.ext.tape,O.output.trans h.ext.output,Ls h.ext.size O.size,λk ai hn=>(O.block k (Lc ai h.ext.size) ab).trans (h.ext.block k ai hn)⟩,
  h.blk.on O ab,h.args.ai λb aw=>O.block b (Lc aw h.ext.size) (by have:b<w.heap.size:=aw;omega)⟩
theorem Hs{sz:Nat}{v:Value}{xs:List Value}(ax:w.ownsRow base e sz v n xs)(aK:w.grownBy ac v.ownBlock)(O:∀g,base<=g->M g):Fr M w ac:=
 (Fr.refl M w).grown aK λk ai=>.inl (O k (ax.lt k ai).1)
theorem Ext.fr(h:Ext w ac):Fr M w ac:=h.mono λ_ h=>h.elim
namespace Bn
theorem pA(h:p:=by
 have ay:m<=2:=by rw[<-hs.1,Lf];exact tO x
 have cf:(gw x).length=m:=by rw[yv,<-hs.1,Lf]
 obtain⟨dp,bB,ct,aR,F⟩:=CO cf hs ao hx hlen;clear aQ hs ao hx hlen cf;go_enter func146,ntmps146;go_wp2;generalize be:World.alloc _ _=W;have hT:py w W x A m c:=by
  have aE:=bb be;exact⟨aE,by rw[<-be];exact LM,bB.ai λb aw=>aE.block b aw (λh=>h)⟩
 have L:=ad hT;clear be hT;go_loopw [3,4] (λsv bc wr=>∃k:Nat,k<=m/\bc=.int .i64 k/\py w wr x A m c/\wr.ownsRow (w.heap.size+1) 9 1 sv k (((gw x).take k).map λt=>Value.string (strOf t))) (λ_ bc _=>m - (intOf bc).toNat)
 case atStart=>exact⟨0,ab,rfl,L.o,by simp,.inl ⟨rfl,rfl⟩⟩
 case round=>
  obtain⟨k,ai,rfl,hT,ax⟩:=hrel;clear L;obtain⟨bM,bo,rfl,dS,_,_,_⟩:=bx ax;obtain⟨L,bq⟩:=aM hT ax;obtain⟨a0,ap,aj⟩:=hT.blk.two;clear hT ax;by_cases aw:k<m
  .obtain⟨b,o,y,cs,rfl,O,a4,bS,bi,Z⟩:=L.args.gZ dg aw
   match cs,bi with
   | [cu,cr,br,aa],_=>
   have c0:=Z 0 cu rfl;have c1:=Z 1 cr rfl;have c2:=Z 2 br rfl;have c3:=Z 3 aa rfl;simp only[Ll] at c0;have aX:b<wr.heap.size:=Lc O L.ext.size;clear Z O;obtain⟨B,bG,fk,e,cC,b4⟩:=aW.1 bS;simp only[List.cons.injEq,and_true] at e;obtain⟨rfl,rfl,rfl,rfl⟩:=e;have bP:=ad a4;have J:=ad (D.aE (bf:=au wr) (λb aw=>Lc aw L.ext.size) _ _ bS);clear a4 bS b4;go_wp2_with(fail);refine(ct.o k y bP.o _ _ _ _ _ _ wr J.o ?_).mono ?_
   .exact Ls (xL x.aZ k y) (Ls (kC x (mG x bP.o).1) F.o)
   rintro e aP ⟨rfl,ar⟩;have ci:=(mG x bP.o).2;have r:=ad (L.on ar.fr);have d0:=(ar.cell (j:=o+k*4) aX (λh=>h)).trans c0;have bL:b<aP.heap.size:=Lc aX ar.size;have al:=ad (bT bq.o (Fr.ext ar));clear L bq a0 ap aj c0 c1 c2 c3 ar aX;obtain⟨a0,ap,aj⟩:=r.blk.two;go_wp2_with(fail);refine(rX x.aZ x.numOf y.aZ x.bk b o m c k aP ci aw bL d0).mono ?_;rintro e aV ⟨rfl,bU⟩;have f:=ad (r.on bU.fr);have bn:=ad (bT al.o (Fr.ext bU));clear r al a0 ap aj d0 bL bU;obtain⟨a0,ap,aj⟩:=f.blk.two;have HA:=ad (xK x.aZ k y);have P:=ad (mG x bP.o).1;have ba:(strOf (bR y)).size<=262144:=by
    rw[aH];exact Ls (xL x.aZ k y) (Ls (kC x (mG x bP.o).1) F.o)
   rw[<-Fp] at *;have b4:w.heap.size+1<=aV.heap.size:=f.blk.lt;by_cases ak:dx x.aZ y.aZ (k == 1)=true
   .rw[ak];have ag:=ad (show (⟨#[40]⟩:ByteArray)++strOf (bR y)++⟨#[41]⟩=strOf (gr x.aZ k y) by
     rw[HA.o,if_pos ak,show (⟨#[40]⟩:ByteArray)=strOf [40] from rfl,show (⟨#[41]⟩:ByteArray)=strOf [41] from rfl,af,af];simp)
    clear ak HA;exact Gn
   .have K:dx x.aZ y.aZ (k == 1)=false:=by simpa using ak
    rw[K];have ag:=ad (show strOf (bR y)=strOf (gr x.aZ k y) by rw[HA.o,if_neg ak]);clear ak K HA;exact Gn
  .have H:k=m:=ab;subst H;have aZ:=ad (y9 (by
    have:=bq.o;rw[<-dp.o,List.take_length] at this;rw[<-dp.o];exact this) dp.o)
   have a8:=ad L.ext;clear bq ct;have hf:decide ((k:Int)<(k:Int))=false:=by simp
   cases x with
   | num n=>
    have hn:0<=n/\n<4611686018427387904:=by have:=aR.o;cases d<;>exact this
    have bY:=ad (show lW n=bR (.num n) by rw[vm hn.1];simp[bR,cd,aU,Atom.bytes]);have O:=ml n wr ab;simp only[VE.aZ,VE.numOf,VE.bk] at *;clear hf;go_wp2_with(fail);refine O.mono ?_;rintro e aP ⟨rfl,ar⟩;have bs:=ad (a8.trans (Fr.of ar));clear ar O;go_wp2;go_ret
    exact⟨ret_str (by rw[bY.o]),bs.o⟩
   | gT s=>
    simp only[VE.aZ,VE.numOf,VE.bk] at *;have bY:=ad (show s=strOf (bR (.gT s)) by simp[bR,cd,aU,Atom.bytes,strOf]);go_wp2;go_ret
    exact⟨ret_str bY.o,a8.o⟩
   | loc j=>exact(by have:=aR.o;cases d<;>exact this:False).elim
   | iz j=>exact(by have:=aR.o;cases d<;>exact this:False).elim
   | un op y=>
    obtain rfl:k=1:=dp.symm;obtain⟨b,o,z,rfl,O,ba,hc⟩:=aZ.str (k:=0) ab;have X:strOf (gr op 0 y)=z:=by simpa[gw] using ba
    subst X;have U:(strOf (gr op 0 y)).size<=262144:=by
     rw[aH];exact Ls (kC (.un op y) (k:=0) rfl) F.o
    have aG:op=3\/op=4:=by
     cases d with
     | zero=>exact aR.elim
     | succ d=>exact aR.1
    have f:=ad (yl op y);simp only[Ll] at hc;clear ba aR L F dp ay cq hf aj dS;rcases aG with rfl|rfl
    .have bY:=ad (show (⟨#[45]⟩:ByteArray)++strOf (gr 3 0 y)=strOf (bR (.un 3 y)) by rw[f.o,if_pos rfl];exact af [45] _);clear f;generalize gr 3 0 y=t at *;exact zQ
    .have bY:=ad (show (⟨#[33]⟩:ByteArray)++strOf (gr 4 0 y)=strOf (bR (.un 4 y)) by rw[f.o,if_neg ab];exact af [33] _);clear f;generalize gr 4 0 y=t at *
     exact zQ
   | bin op y z=>
    obtain rfl:k=2:=dp.symm;obtain⟨b,o,aY,rfl,O,Y,u⟩:=aZ.str (k:=0) ab;obtain⟨M,av,R,e,_,S,b9⟩:=aZ.str (k:=1) ab;simp only[LG,Addr.mk.injEq,and_true] at e;obtain⟨rfl,rfl⟩:=e;have X:strOf (gr op 0 y)=aY:=by simpa[gw] using Y
    have aq:strOf (gr op 1 z)=R:=by simpa[gw] using S
    subst X aq;have aL:(strOf (gr op 0 y)).size<=262144:=by
     rw[aH];exact Ls (kC (.bin op y z) (k:=0) rfl) F.o
    have ho:(strOf (gr op 1 z)).size<=262144:=by
     rw[aH];exact Ls (kC (.bin op y z) (k:=1) rfl) F.o
    have aG:5<=op/\op<=17:=by
     cases d with
     | zero=>exact aR.elim
     | succ d=>exact aR.1
    have bY:=ad (show ((strOf (gr op 0 y)++⟨#[32]⟩)++strOf (gM op))++⟨#[32]⟩++strOf (gr op 1 z)=strOf (bR (.bin op y z)) by
     rw[vd,show (⟨#[32]⟩:ByteArray)=strOf [32] from rfl,af,af,af,af];simp)
    have bC:(strOf (gM op)).size<=2:=by
     rw[aH];unfold gM
     repeat' split
     all_goals simp
    have o1:(op == 1)=false:=by simp;omega
    have fg:(op == 2)=false:=by simp;omega
    have o3:(op == 3)=false:=by simp;omega
    have o4:(op == 4)=false:=by simp;omega
    obtain⟨gK,cn,bj,b2⟩:=uW aG;have aB:=ad (λ(i:Nat)=>FN (i:=i) aG);obtain⟨ac,cm⟩:=aM b2 bj;simp only[Ll] at u;clear Y S aR F dp ay cq hf aj dS aZ b2 aG;generalize strOf (gr op 0 y)=t0 at *;generalize strOf (gr op 1 z)=t1 at *;generalize strOf (gM op)=sg at *;simp only[VE.aZ,VE.numOf,VE.bk] at *;go_wp2_with(fail);refine(gk op wr).mono ?_;rintro e aP ⟨rfl,ar⟩;rw[bj];go_wp2_with(fail);refine(se gK cn aP).mono ?_;rintro e aV ⟨bM,ae,n,hn,rfl,hs,bl,bU⟩;have l:=ar.trans bU;have a7:=ad (a8.trans l);have e0:=(l.cell (j:=o) O (λh=>h)).trans u;have e1:=(l.cell (j:=o+1) O (λh=>h)).trans b9;have a9:b<aV.heap.size:=Lc O l.size;have f:=ad (L.on (Ext.fr l));obtain⟨a3,am,aJ⟩:=f.blk.two;simp only[VE.aZ,VE.numOf,VE.bk] at a3;have bq:=ah hs bl;clear hs bl ar bU l u b9 O a0 ap L a8 bj;go_wp2_with(fail);go_loopw [8] (λce wr=>∃j:Nat,j<=n/\ce=.int .i64 j/\(∀(i:Nat) (x:Int),i<j->(nT gK)[i]?=some x->x≠op)/\Ext aV wr) (λce _=>n - (intOf ce).toNat)
    case atStart=>exact⟨0,ab,rfl,λi x h=>ab,LL⟩
    case round=>
     obtain⟨j,bd,rfl,a6,b0⟩:=hrel;obtain⟨bw,bX⟩:=aM a6 b0;obtain⟨v0,aC⟩:=Fr.rz b0;clear a6 b0;by_cases Q:j<n
     .obtain⟨c1,aN,x,rfl,bI,hx,aD⟩:=bq.2.int Q;obtain⟨c2,aO,gJ,rfl,aI,cZ,T⟩:=bq.1.str Q;have aR:=ad hx;by_cases rb:x=op
      .subst rb;have q:=aB.o j (by rw[cm.o];exact hx);rw[cm.o,Lw,cZ] at q;injection q with q;subst q;clear hx cZ;go_wp2;go_quiet (fail)
       go_wp2;go_quiet (fail)
       go_wp2;go_ret;exact⟨ret_str bY.o,a7.trans ((bX.drewN _).drewN _)⟩
      .have q1:(x == op)=false:=by simpa using rb
       have V:=ad rb;clear rb hx cZ;go_wp2;go_quiet (fail)
       go_wp2
       go_round
       case rel=>refine⟨j+1,ab,by go_num,λi y ak a4=>?_,?_⟩;rotate_left;exact bX.drewN _;exact(by
        by_cases v:i=j
        .subst v;rw[aR.o] at a4;injection a4 with a4;subst a4;exact V.o
        .exact bw.o i y ab a4)
       case measure=>exact az
     .exfalso;obtain⟨i,ak⟩:=List.getElem?_of_mem ac.o;have aw:=(List.getElem?_eq_some_iff.1 ak).1;have hl:=bq.2.1;exact bw.o i op ab ak rfl
 ):p:=h
end Bn
open Bn in
theorem sj(N:LQ)(d:Nat)(x:VE)(hx:x.src N d)(ao:∀(k:Nat) (y:VE),x.args[k]?=some y->zA y):zA x:=by
 intro op n s A m c w aQ hlen;exact pz
theorem jM(N:LQ):∀(d:Nat) (x:VE),x.src N d->zA x
 | 0,x,h=>sj N 0 x h λk y a4=>by rw[qU h] at a4;simp at a4
 | d+1,x,h=>sj N (d+1) x h λk y a4=>jM N d y (qT h a4)
def fP(r:eN):List UInt8:=aU (iq r)
theorem w9(h:r.idx=none):fP r=r.name.data.toList:=by
 unfold fP iq;rw[h];simp[aU,Atom.bytes]
theorem xa{e:VE}(h:r.idx=some e):fP r=r.name.data.toList++91::(bR e++[93]):=by
 unfold fP iq bR;rw[h];simp[aU,Atom.bytes]
theorem jB:(kJ r).rep w P cs↔∃A n c,cs=[.string r.name,.slice A n c]/\n<=c/\Sl w P A n (r.idx.toList.map bf):=by
 unfold kJ;rw[bB,ch];constructor
 .rintro⟨y,rfl,h⟩;obtain⟨A,n,c,aa,rfl,hc,hs,aU⟩:=aF.1 h;exact xE
 .rintro⟨A,n,c,rfl,hc,hs⟩;exact CW
def Ei(r:eN):Prop:=∀e,r.idx=some e->∃N d,e.src N d
theorem c9(s:ByteArray):strOf s.data.toList=s:=by simp[strOf]
namespace Bo
theorem Aa(h:p:=by
 refine pf ?_;refine aB ?_;go_wp2;go_ret;exact⟨ret_str bY.o,a8.trans (Fr.aQ ar)⟩
 ):p:=h
end Bo
open Bo in
theorem kT(r:eN)(av:Ei r)(s:ByteArray)(A:LP)(n c:Nat)(w:World)(aQ:(kJ r).rep w (au w) [.string s,.slice A n c])(hlen:(fP r).length<=262144) :
  Calls prog 148 #[.agg #[.string s,.slice A n c]] w λe ac=>e=.returned (.string (strOf (fP r)))/\Ext w ac:=by
 obtain⟨I,a5,aA,e,aI,hs⟩:=jB.1 aQ;simp only[List.cons.injEq,Value.string.injEq,Value.slice.injEq,and_true] at e;obtain⟨rfl,rfl,rfl,rfl⟩:=e
 cases ak:r.idx with
 | none=>
  rw[ak] at hs;obtain rfl:n=0:=hs.1.symm;have bY:=ad (show r.name=strOf (fP r) by rw[w9 ak,c9]);clear ak hs aQ hlen av;go_enter func148,ntmps148;go_wp2;go_ret
  exact⟨ret_str bY.o,LL.alloc _⟩
 | some x=>
  rw[ak] at hs;obtain rfl:n=1:=hs.1.symm;obtain⟨N,d,hx⟩:=av x ak;obtain⟨b,o,bs,Z,bu,E,rfl,O,ax,c0,c1,c2,c3⟩:=Sl.DP hs (dg x);obtain⟨B,bG,fk,e,cC,b4⟩:=aW.1 ax;simp only[List.cons.injEq,and_true] at e;obtain⟨rfl,rfl,rfl,rfl⟩:=e;have aX:b<w.heap.size:=O;have L:=ad (xa ak);have Y:r.name.size<=262144:=by
   have:=hlen;rw[L.o,Ld] at this;have aD:r.name.size=r.name.data.toList.length:=rfl;omega
  have S:(bR x).length<=262144:=by
   have:=hlen;rw[L.o,Ld] at this;simp at this;omega
  have bY:=ad (show r.name++⟨#[91]⟩++strOf (bR x)++⟨#[93]⟩=strOf (fP r) by
   rw[L.o,show (⟨#[91]⟩:ByteArray)=strOf [91] from rfl,show (⟨#[93]⟩:ByteArray)=strOf [93] from rfl];conv=>lhs;rw[<-c9 r.name]
   rw[af,af,af];simp)
  have bc:=ad S;have bm:(strOf (bR x)).size<=262144:=by rw[aH];exact S
  have aR:=ad (jM N d x hx);have ag:=ad ax;clear ak hs aQ hlen av L ax b4 O S hx;go_enter func148,ntmps148;go_wp2;generalize be:World.alloc _ _=W;have aE:=bb be;obtain⟨a0,ap,aj⟩:=(show an W w.heap.size 185 #[.string r.name,.slice (some ⟨b,o,none⟩) 1 c] by rw[<-be];exact LM).two;have d0:=(aE.cell (j:=o) aX (λh=>h)).trans c0;have d1:=(aE.cell (j:=o+1) aX (λh=>h)).trans c1;have d2:=(aE.cell (j:=o+2) aX (λh=>h)).trans c2;have d3:=(aE.cell (j:=o+3) aX (λh=>h)).trans c3;have f:b<W.heap.size:=Lc aX aE.size;have a8:=ad aE;clear be aE c0 c1 c2 c3 aX;refine eU (λ_=>False) [(0,3),(1,0),(2,3),(3,3),(4,0),(5,3),(6,0),(7,1),(8,3),(9,3),(10,3)] ?_;refine pf ?_;refine ph ?_;refine bh (v:=?_) rfl (by rfl) (λV=>?_) ?_;rotate_left
  .go_simp;exact dW
  try simp only[PU]
  refine pf ?_;refine ph ?_;refine pf ?_;refine ph ?_;refine aO rfl (λK hK=>?_);go_simp;refine(aR.o _ _ _ _ _ _ _ (D.on ag.o (Fr.ext a8.drew)) bc.o).mono ?_;exact z9
def oA(a:dd):List UInt8:=aU (fy a)
def jh(l:List dd):List UInt8:=40::aU (dT (l.map fy))
def hB(l:List dd):List UInt8:=aU (iS l)
theorem si(l:List dd):hB l=jh l++[41]:=by
 unfold hB iS jh;rw[aY,a2];rfl
theorem mh:∀(l:List (List Atom)) (a:List Atom),dT (l++[a])=if l=[] then a else dT l++(.sg [44]::.ws 32::a)
 | [],a=>rfl
 | [b],a=>by simp[dT]
 | b::d::l,a=>by
  have ao:=mh (d::l) a;rw[if_neg (by simp)] at ao;rw[if_neg (by simp)];show dT (b::d::(l++[a]))=_
  simp only[dT];rw[Lq] at ao;rw[ao];simp
theorem rC{aI:List dd}{a:dd}(h:aI[k]?=some a):jh (aI.take (k+1))=jh (aI.take k)++((if 0<k then [44,32] else [])++oA a):=by
 have ai:k<aI.length:=(List.getElem?_eq_some_iff.1 h).1;unfold jh oA;rw[List.take_add_one,h,Li];show (40:UInt8)::aU (dT (List.map fy (List.take k aI)++[fy a]))=_
 rw[mh];by_cases h0:0<k
 .rw[if_neg (by intro e;have:=congrArg List.length e;simp only[Lf,List.length_take,Lu] at this;omega),if_pos h0,a2,aY,aY];simp[Atom.bytes]
 .obtain rfl:k=0:=ab;simp[dT,aU]
theorem ys(aI:List dd)(k:Nat):(jh (aI.take k)).length<=(jh (aI.take (k+1))).length:=by
 cases h:aI[k]? with
 | none=>rw[Lj (i:=k+1) (by have:=List.getElem?_eq_none_iff.1 h;omega),Lj (List.getElem?_eq_none_iff.1 h)];exact Lb _
 | some a=>rw[rC h];simp
theorem xG(aI:List dd):∀j k:Nat,(jh (aI.take k)).length<=(jh (aI.take (k+j))).length
 | 0,k=>Lb _
 | j+1,k=>Ls (xG aI j k) (ys aI (k+j))
theorem tN(aI:List dd)(ai:k<=aI.length):(jh (aI.take k)).length<=(hB aI).length:=by
 have:=xG aI (aI.length - k) k;rw[show k+(aI.length - k)=aI.length by omega,List.take_length] at this;rw[si];simp;omega
def FO:dd->Prop
 | .mx r=>Ei r
 | .ex e=>∃N d,e.src N d
theorem sS(a:dd):(eD a).sz=7:=by
 cases a with
 | mx r=>rfl
 | ex e=>show D.zh [.b false,fQ,bf e]=7;simp only[D.zh,dg,D.sz,fQ]
theorem dy{d:D}{l:List D}:D.aJ w P (d::l) cs↔∃x y,cs=x++y/\d.rep w P x/\D.aJ w P l y:=by simp only[D.aJ]
theorem E7(h:(eD (.mx r)).rep w P cs):∃s A n c e0 e1 e2 e3,cs=[.bool true,.string s,.slice A n c,e0,e1,e2,e3]/\(kJ r).rep w P [.string s,.slice A n c]:=by
 unfold eD at h;rw[bB,fi] at h;obtain⟨y,rfl,h⟩:=h;obtain⟨x,br,rfl,hx,a4⟩:=dy.1 h;obtain⟨A,n,c,rfl,hc,hs⟩:=jB.1 hx;rw[D.bo] at a4;obtain⟨A2,c2,rfl⟩:=fa.1 a4;exact⟨_,A,n,c,_,_,_,_,rfl,hx⟩
namespace Bp
theorem vL(h:p:=by
 obtain⟨A,n,c,bF,rfl,_,_,ba⟩:=aF.1 hx;rw[aK] at ba;subst ba;exact zH
 ):p:=h
end Bp
open Bp in
theorem E6{e:VE}(h:(eD (.ex e)).rep w P cs):∃bE r1 op n s A m c,cs=[.bool false,bE,r1,.int .i64 op,.int .i64 n,.string s,.slice A m c]/\(bf e).rep w P [.int .i64 op,.int .i64 n,.string s,.slice A m c]:=by
 exact vK
theorem sK(aI:List dd)(av:∀a∈aI,FO a)(A:LP)(n c:Nat)(w:World)(hs:Sl w (au w) A n (aI.map eD))(hlen:(hB aI).length<=262144)(hn:n<=1000) :
  Calls prog 147 #[.slice A n c] w λe ac=>e=.returned (.string (strOf (hB aI)))/\Ext w ac:=by
 have hl:aI.length=n:=by rw[<-hs.1,Lf]
 obtain⟨bN,bB,bQ,F⟩:=iR hl hs av hlen;clear hs av hlen hl;go_enter func147,ntmps147;go_wp2;go_loopw [3,4] (λsv bc wr=>∃k:Nat,k<=n/\bc=.int .i64 k/\sv=.string (strOf (jh (aI.take k)))/\Ext w wr) (λ_ bc _=>n - (intOf bc).toNat)
 case atStart=>exact⟨0,ab,rfl,rfl,LL⟩
 case round=>
  obtain⟨k,ai,rfl,rfl,aE⟩:=hrel;have a8:=ad aE;clear aE;have ba:(strOf (jh (aI.take k))).size<=262144:=by
   rw[aH];exact Ls (tN aI (by rw[bN.o];exact ai)) F.o
  by_cases aw:k<n
  .obtain⟨b,o,a,cs,rfl,O,aW,aC,bi,Z⟩:=(bB.on (Fr.ext a8.o)).gZ sS aw;have aX:b<wr.heap.size:=O;have HA:=ad aW;have i:=ad (rC aW);have bY:=ad (bQ.o a (Le aW));have bv:(oA a).length<=262144:=by
    have ae:=tN aI (k:=k+1) (by rw[bN.o];exact aw);rw[i.o] at ae;have aD:=F.o;simp at ae;omega
   have f:=ad bv;have bm:(strOf (oA a)).size<=262144:=by rw[aH];exact bv
   clear aW bv O
   cases a with
   | mx r=>
    obtain⟨s,cn,bW,rc,e0,e1,e2,e3,rfl,aL⟩:=E7 aC;have c0:=Z 0 _ rfl;have c1:=Z 1 _ rfl;have c2:=Z 2 _ rfl;simp only[Ll] at c0;have I:=ad aL;clear Z aC aL;have l:=ad (show oA (.mx r)=[109,117,116,101,120,32]++fP r by
     unfold oA fy fP;rw[aY,aY];simp[kw,fK,Atom.bytes])
    have t:(fP r).length<=262144:=by
     have:=f.o;rw[l.o] at this;simp at this;omega
    have j:=ad t;have G:(strOf (fP r)).size<=262144:=by rw[aH];exact t
    clear t;by_cases h0:0<k
    ·
     have q:decide ((k:Int) > 0)=true:=by simp;omega
     have ag:=ad (show strOf (jh (aI.take k))++⟨#[44,32]⟩++⟨#[109,117,116,101,120,32]⟩++strOf (fP r)=strOf (jh (aI.take (k+1))) by
      rw[i.o,if_pos h0,l.o,show (⟨#[44,32]⟩:ByteArray)=strOf [44,32] from rfl,show (⟨#[109,117,116,101,120,32]⟩:ByteArray)=strOf [109,117,116,101,120,32] from rfl,af,af,af]
      try simp)
     go_wp2_with(fail);refine(kT r bY.o s cn bW rc wr I.o j.o).mono ?_;rintro e aP ⟨rfl,ar⟩;have bs:=ad (a8.trans ar);clear ar c0 c1 c2 a8;exact xy
    ·
     have q:decide ((k:Int) > 0)=false:=by simp;omega
     have ag:=ad (show strOf (jh (aI.take k))++⟨#[109,117,116,101,120,32]⟩++strOf (fP r)=strOf (jh (aI.take (k+1))) by
      rw[i.o,if_neg h0,l.o,show (⟨#[109,117,116,101,120,32]⟩:ByteArray)=strOf [109,117,116,101,120,32] from rfl,af,af]
      try simp)
     go_wp2_with(fail);refine(kT r bY.o s cn bW rc wr I.o j.o).mono ?_;rintro e aP ⟨rfl,ar⟩;have bs:=ad (a8.trans ar);clear ar c0 c1 c2 a8
     exact xy
   | ex x=>
    obtain⟨bE,r1,op,bl,s,EA,em,ec,rfl,g⟩:=E6 aC;have c0:=Z 0 _ rfl;have c1:=Z 3 _ rfl;have c2:=Z 4 _ rfl;have c3:=Z 5 _ rfl;have u:=Z 6 _ rfl;simp only[Ll] at c0;have m:=ad g;have G:(strOf (bR x)).size<=262144:=bm;obtain⟨N,d,hx⟩:=bY.o;have aR:=ad (jM N d x hx);clear Z aC g hx bY;by_cases h0:0<k
    ·
     have q:decide ((k:Int) > 0)=true:=by simp;omega
     have ag:=ad (show strOf (jh (aI.take k))++⟨#[44,32]⟩++strOf (bR x)=strOf (jh (aI.take (k+1))) by
      rw[i.o,show oA (.ex x)=bR x from rfl,if_pos h0,show (⟨#[44,32]⟩:ByteArray)=strOf [44,32] from rfl,af,af]
      try simp)
     go_wp2_with(fail);refine(aR.o op bl s EA em ec wr m.o f.o).mono ?_;rintro e aP ⟨rfl,ar⟩;have bs:=ad (a8.trans ar);clear ar c0 c1 c2 c3 u a8;exact xy
    ·
     have q:decide ((k:Int) > 0)=false:=by simp;omega
     have ag:=ad (show strOf (jh (aI.take k))++strOf (bR x)=strOf (jh (aI.take (k+1))) by
      rw[i.o,show oA (.ex x)=bR x from rfl,if_neg h0,af]
      try simp)
     go_wp2_with(fail);refine(aR.o op bl s EA em ec wr m.o f.o).mono ?_;rintro e aP ⟨rfl,ar⟩;have bs:=ad (a8.trans ar);clear ar c0 c1 c2 c3 u a8;exact xy
  .obtain rfl:k=n:=ab;have ag:=ad (show strOf (jh (aI.take k))++⟨#[41]⟩=strOf (hB aI) by
    rw[si,<-bN.o,List.take_length,<-af];rfl)
   go_wp2;go_ret;exact⟨ret_str ag.o,a8.o⟩
inductive ax where
 | set (v:Bool) (n:ByteArray) (e:VE)
 | call (g:Bool) (n:ByteArray) (aI:List dd)
 | lock (u:Bool) (r:eN)
 | ite (e:VE) (th el:ak)
 | gp (e:VE) (th:ak)
 | ret
def ak.list:ak->List ax
 | .nil=>[]
 | .set v n e rest=>.set v n e::rest.list
 | .call g n aI rest=>.call g n aI::rest.list
 | .lock u r rest=>.lock u r::rest.list
 | .ite e th el rest=>.ite e th el::rest.list
 | .gp e th rest=>.gp e th::rest.list
 | .ret rest=>.ret::rest.list
def a9:ax->D
 | .set v n e=>gz (if v then 1 else 2) n (bf e) fQ [] [] []
 | .call g n aI=>gz (if g then 4 else 3) n jQ fQ (aI.map eD) [] []
 | .lock u r=>gz (if u then 6 else 5) ⟨#[]⟩ jQ (kJ r) [] [] []
 | .ite e th el=>gz 7 ⟨#[]⟩ (bf e) fQ [] (cY th) (cY el)
 | .gp e th=>gz 8 ⟨#[]⟩ (bf e) fQ [] (cY th) []
 | .ret=>gz 9 ⟨#[]⟩ jQ fQ [] [] []
theorem cC:∀b:ak,cY b=b.list.map a9
 | .nil=>rfl
 | .set v n e rest=>by simp only[cY,ak.list,Lh,a9,cC rest]
 | .call g n aI rest=>by simp only[cY,ak.list,Lh,a9,cC rest]
 | .lock u r rest=>by simp only[cY,ak.list,Lh,a9,cC rest]
 | .ite e th el rest=>by simp only[cY,ak.list,Lh,a9,cC rest]
 | .gp e th rest=>by simp only[cY,ak.list,Lh,a9,cC rest]
 | .ret rest=>by simp only[cY,ak.list,Lh,a9,cC rest]
def dt(t:Nat):ax->List UInt8
 | .set v n e=>List.replicate t 9++((if v then [118,97,114,32] else [])++(n.data.toList++([32,61,32]++(bR e++[59,10]))))
 | .call g n aI=>List.replicate t 9++((if g then [103,111,32] else [])++(n.data.toList++(hB aI++[59,10])))
 | .lock u r=>List.replicate t 9++((if u then [117,110,108,111,99,107,32] else [108,111,99,107,32])++(fP r++[59,10]))
 | .ite e th el=>List.replicate t 9++([105,102,32]++(bR e++([32,123,10]++(aU (aV (t+1) th)++(List.replicate t 9++([125] ++
   ((if el.isNil then [] else [32,101,108,115,101,32,123,10]++(aU (aV (t+1) el)++(List.replicate t 9++[125])))++[10])))))))
 | .gp e th=>List.replicate t 9++([119,104,105,108,101,32]++(bR e++([32,123,10]++(aU (aV (t+1) th)++(List.replicate t 9++[125,10])))))
 | .ret=>List.replicate t 9++[114,101,116,117,114,110,59,10]
def cA(t:Nat)(b:ak):List UInt8:=aU (aV t b)
theorem fC(t:Nat):aU (ft t)=List.replicate t 9:=by
 induction t with
 | zero=>rfl
 | succ t ao=>unfold ft at *;rw[List.replicate_succ,aY,ao];rfl
theorem rH:aU []=[]:=rfl
theorem eQ(t:Nat):∀b:ak,cA t b=(b.list.map (dt t)).flatten
 | .nil=>rfl
 | .set v n e rest=>by
  have ao:=eQ t rest;unfold cA at *;simp only[aV,ak.list,Lh,List.flatten_cons,<-ao,dt,a2,aY,fC,bR]
  cases v<;>simp[Atom.bytes,kw,aU]
 | .call g n aI rest=>by
  have ao:=eQ t rest;unfold cA at *;simp only[aV,ak.list,Lh,List.flatten_cons,<-ao,dt,a2,aY,fC,hB]
  cases g<;>simp[Atom.bytes,kw,aU]
 | .lock u r rest=>by
  have ao:=eQ t rest;unfold cA at *;simp only[aV,ak.list,Lh,List.flatten_cons,<-ao,dt,a2,aY,fC,fP]
  cases u<;>simp[Atom.bytes,kw,aU]
 | .ite e th el rest=>by
  have ao:=eQ t rest;unfold cA at *;simp only[aV,ak.list,Lh,List.flatten_cons,<-ao,dt,a2,aY,fC,bR];cases hn:el.isNil
  .simp only[LJ,if_false,a2,aY,fC];simp[Atom.bytes,kw,rH]
  .simp only[if_true]
   simp[Atom.bytes,kw,rH]
 | .gp e th rest=>by
  have ao:=eQ t rest;unfold cA at *;simp only[aV,ak.list,Lh,List.flatten_cons,<-ao,dt,a2,aY,fC,bR]
  simp[Atom.bytes,kw]
 | .ret rest=>by
  have ao:=eQ t rest;unfold cA at *;simp only[aV,ak.list,Lh,List.flatten_cons,<-ao,dt,a2,aY,fC];simp[Atom.bytes,kw]
end Go.Proofs.YtflecliffjbleaaGreat
