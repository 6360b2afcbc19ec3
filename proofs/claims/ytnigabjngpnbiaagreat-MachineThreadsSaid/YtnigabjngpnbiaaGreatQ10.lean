/- Part 10 of the proof. No condition of its own. -/
import Derived.Test.YtnigabjngpnbiaaGreatQ05
import Derived.Test.YtnigabjngpnbiaaGreatQ07
import Derived.Test.YtnigabjngpnbiaaGreatQ09
namespace Go.Proofs.YtnigabjngpnbiaaGreat
open Go.RowKit Go.Proofs.Tryz
set_option maxRecDepth 1000000
set_option maxHeartbeats 25600000
set_option linter.unusedVariables false
variable{op:Int}{l:List UInt8}{cs:List Value}{B N base g k m n:Nat}{M P:Nat->Prop}{p:Prop}{e t:TypeId}{x y:VE}{J w:World}{r:eR}
def byteOf(v:Int):UInt8:=UInt8.ofNat v.toNat
theorem pY(W:World)(v:Int):(convert 64 9 (.slice (some ⟨W.heap.size,0,none⟩) 1 1)).run prog (W.alloc (.cells #[.int .u8 v] 5))=.ok (.string (strOf [byteOf v])) (W.alloc (.cells #[.int .u8 v] 5)):=by
 have:=run_convert_bytes_arg (P:=prog) (W.alloc (.cells #[.int .u8 v] 5)) 64 5 Tryz.underlying64 Tryz.underlying5 W.heap.size 0 1 1 [v] rfl (λi I=>by
  have:i=0:=ad;subst this;rw[(au.new W 5 #[.int .u8 v]).cell];rfl) 9 Tryz.underlying9
 rw[this];rfl
theorem aM(l:List UInt8):(strOf l).size=l.length:=by simp[strOf,ByteArray.size]
theorem nZ(m:Nat):byteOf (48+((m:Int) % 10))=UInt8.ofNat (48+m % 10):=by
 unfold byteOf;congr 1
theorem ret_str{a b:ByteArray}(h:a=b):Ending.returned (.string a)=.returned (.string b):=by rw[h]
theorem ag(a b:List UInt8):strOf a++strOf b=strOf (a++b):=by
 unfold strOf;rw[ByteArray.ext_iff];simp
def im(N m:Nat)(l:List UInt8):Prop:=iH N=(if m=0 then [] else iH m)++l
theorem pZ(N:Nat):im N (N / 10) [UInt8.ofNat (48+N % 10)]:=by
 unfold im;rw[iH];split
 .rename_i h;rw[if_pos ad,show N % 10=N by omega];rfl
 .rw[if_neg ad]
theorem CJ(h:im N m l)(hm:0<m):im N (m / 10) (UInt8.ofNat (48+m % 10)::l):=by
 unfold im at *;rw[if_neg ad] at h;rw[h];have:=pZ m;unfold im at this;rw[this];simp
theorem Ec(h:im N m l)(bo:N<=9223372036854775808):l.length<=20:=by
 have:=iI 19 N ad;unfold im at h;rw[h,JK] at this;omega
theorem n9(N:Nat)(w:World)(bo:N<=9223372036854775808) :
  Calls prog 149 #[.int .u64 N] w λe J=>e=.returned (.string (strOf (iH N)))/\Below w.heap.size w J:=by
 have kc:=pY w;go_enter func149,ntmps149;go_wp2;go_loopw [0,3] (λa sv wr=>∃(m:Nat) (l:List UInt8),a=.int .u64 m/\sv=.string (strOf l)/\m<=N/\im N m l/\Below w.heap.size w wr) (λa _ _=>(intOf a).toNat)
 case atStart=>exact⟨N / 10,[byteOf (48+(N:Int) % 10)],by simp,rfl,ad,by rw[nZ];exact pZ N,(Below.refl _ _).alloc (JI _) _⟩
 case round=>
  obtain⟨m,l,rfl,rfl,hm,aZ,O⟩:=hrel;obtain⟨a2,bL⟩:=aI aZ O;have hl:=Ec aZ bo;clear aZ O kc;have kc:=pY wr;by_cases h0:0<m
  .have q:decide ((m:Int) > 0)=true:=by simp;omega
   have ao:decide (m > 0)=true:=by simp;omega
   have bi:(strOf l).size<=20:=by rw[aM];omega
   have bu:(strOf [byteOf (48+(m:Int) % 10)]).size<=1:=by rw[aM];simp
   go_wp2;go_roundw
   case rel=>exact⟨m / 10,byteOf (48+(m:Int) % 10)::l,by simp,by rw[ag];rfl,ad,by rw[nZ];exact CJ a2.o h0,bL.alloc bL.size _⟩
   case measure=>exact aU
  .have P:m=0:=ad;have bd:=ae (show iH N=l by have:=a2.o;unfold im at this;rw[if_pos P] at this;simpa using this);have q:decide ((m:Int) > 0)=false:=by simp;omega
   clear P;go_wp2;go_ret;exact⟨ret_str (by rw[bd.o]),bL.o⟩
def kO(n:Int):List UInt8:=aQ (gS n)
theorem xH{n:Int}(h:n<0):kO n=45::iH n.natAbs:=by unfold kO gS;rw[if_pos h];simp[aQ,Atom.bytes]
theorem td{n:Int}(h:0<=n):kO n=iH n.toNat:=by unfold kO gS;rw[if_neg ad];simp[aQ,Atom.bytes]
theorem k6(n:Int)(w:World)(h:-9223372036854775808<=n/\n<=9223372036854775807) :
  Calls prog 134 #[.int .i64 n] w λe J=>e=.returned (.string (strOf (kO n)))/\Below w.heap.size w J:=by
 by_cases hn:n<0
 .obtain⟨m,rfl⟩:∃m:Nat,n = -((m:Int)+1):=⟨(-(n+1)).toNat,ad⟩
  have hm:m<=9223372036854775807:=ad;have b1:=ae (xH hn);clear hn h;go_enter func134,ntmps134;go_wp2_with(fail);rw[show (-(-((m:Int)+1)+1)+1)=((m+1:Nat):Int) by omega];refine(n9 (m+1) w ad).mono ?_;rintro e J ⟨rfl,O⟩;have bL:=ae O;clear O;have bi:(strOf (iH (m+1))).size<=20:=by rw[aM];exact iI 19 _ ad
  go_wp2;go_ret;exact⟨ret_str (by rw[b1.o,show (-((m:Int)+1)).natAbs=m+1 by omega];exact ag [45] _),bL.o⟩
 .obtain⟨m,rfl⟩:=JN (show 0<=n by omega);have b1:=ae (td (n:=(m:Int)) ad);clear hn;go_enter func134,ntmps134;go_wp2_with(fail);refine(n9 m w ad).mono ?_;rintro e J ⟨rfl,O⟩;have bL:=ae O;clear O;go_wp2;go_ret;exact⟨ret_str (by rw[b1.o,J3]),bL.o⟩
def cS:Nat->List (List UInt8×Int)
 | 0=>[([124,124],17)]
 | 1=>[([38,38],16)]
 | 2=>[([61,61],14),([33,61],15),([60],10),([60,61],11),([62],12),([62,61],13)]
 | 3=>[([43],8),([45],9)]
 | _=>[([42],5),([47],6),([37],7)]
def vg(k:Nat):List ByteArray:=(cS k).map λp=>strOf p.1
def ha(k:Nat):List Int:=(cS k).map (·.2)
theorem DF{cs:Array Value}{l:List Int}(h:au w g t cs)(hc:cs=(l.map (Value.int .i64)).toArray)(hl:l.length=n)(aK:g<B):cB (EF dr) 1 w B (some ⟨g,0,none⟩) n l:=by
 subst hc;refine⟨hl,λ_=>⟨g,0,rfl,aK,λk x hx=>⟨dr x,rfl,rfl,λj v be=>?_⟩⟩⟩;have b:j=0/\v=.int .i64 x:=by
  cases j with
  | zero=>simp[dr] at be;exact⟨rfl,be.symm⟩
  | succ j=>simp[dr] at be
 obtain⟨rfl,rfl⟩:=b;rw[h.cell];simp[hx]
theorem DG{cs:Array Value}{l:Kk}(h:au w g t cs)(hc:cs=(l.map Value.string).toArray)(hl:l.length=n)(aK:g<B):cB (EF m6) 1 w B (some ⟨g,0,none⟩) n l:=by
 subst hc;refine⟨hl,λ_=>⟨g,0,rfl,aK,λk x hx=>⟨m6 x,rfl,rfl,λj v be=>?_⟩⟩⟩;have b:j=0/\v=.string x:=by
  exact yk
 obtain⟨rfl,rfl⟩:=b;rw[h.cell];simp[hx]
def xV(w:World)(k:Nat)(e:Ending)(J:World):Prop:=
 ∃A B n,n<=6/\e=.returned (.tuple #[.slice A n n,.slice B n n])/\cB (EF m6) 1 J J.heap.size A n (vg k)/\cB (EF dr) 1 J J.heap.size B n (ha k)/\Ext w J
theorem qz(k:Nat)(aj:k<=4)(w:World):Calls prog 146 #[.int .i64 k] w (xV w k):=by
 obtain rfl|rfl|rfl|rfl|rfl:k=0\/k=1\/k=2\/k=3\/k=4:=ad
 all_goals
  clear aj;go_enter func146,ntmps146;go_wp2
  go_ret2
  generalize ba:World.alloc (World.alloc w _) _=W;refine⟨some ⟨w.heap.size,0,none⟩,some ⟨w.heap.size+1,0,none⟩,_,by decide,rfl,DG (t:=9) (cs:=((vg _).map Value.string).toArray) ?_ rfl rfl ?_,DF (t:=3) (cs:=((ha _).map (Value.int .i64)).toArray) ?_ rfl rfl ?_,?_⟩
  .rw[<-ba];exact(Kg).alloc _
  .rw[<-ba];simp;omega
  .rw[<-ba];exact au.k5 _ _ _ (by simp)
  .rw[<-ba];simp
  .rw[<-ba];exact(Kf.alloc _).alloc _
theorem D7(aj:k<=4)(h:op∈ha k):cK op=k:=by
 obtain rfl|rfl|rfl|rfl|rfl:k=0\/k=1\/k=2\/k=3\/k=4:=ad
 all_goals
  simp[ha,cS] at h;unfold cK
  repeat' split
  all_goals omega
theorem CC(h:∀k:Nat,k<5->op∉ha k):cK op=if op=3\/op=4 then 5 else 6:=by
 have h0:=h 0 ad;have ac:=h 1 ad;have ap:=h 2 ad;have aD:=h 3 ad;have bt:=h 4 ad;simp[ha,cS] at h0 ac ap aD bt;unfold cK;rw[if_neg ad,if_neg ad,if_neg ad,if_neg ad,if_neg ad]
theorem fJ(op:Int)(w:World):Calls prog 158 #[.int .i64 op] w λe J=>e=.returned (.int .i64 (cK op))/\Ext w J:=by
 go_enter func158,ntmps158;go_wp2;go_loopw [3] (λaX wr=>∃k:Nat,k<=5/\aX=.int .i64 k/\(∀i:Nat,i<k->op∉ha i)/\Ext w wr) (λaX _=>6 - (intOf aX).toNat)
 case atStart=>exact⟨0,ad,rfl,λi h=>ad,Kf⟩
 case round=>
  obtain⟨k,aj,rfl,bK,O⟩:=hrel;obtain⟨bL,bN⟩:=aI O bK;clear O bK;by_cases aq:k<5
  .have q:decide ((k:Int)<5)=true:=by simp;omega
   go_wp2_with(fail);refine(qz k ad _).mono ?_;rintro e aV ⟨A,B,n,hn,rfl,hs,bb,he⟩;have cY:=ak bb he;clear hs bb he;go_wp2_with(fail)
   go_loop [6] (λcr=>∃j:Nat,j<=n/\cr=.int .i64 j/\∀(i:Nat) (x:Int),i<j->(ha k)[i]?=some x->x≠op) (λcr=>n - (intOf cr).toNat)
   case atStart=>exact⟨0,ad,rfl,λi x h=>ad⟩
   case round=>
    obtain⟨j,be,rfl,aH⟩:=hrel;have bd:=ae aH;clear aH;by_cases K:j<n
    .obtain⟨b,o,x,rfl,H,hx,hc⟩:=cY.1.int K;have aJ:=ae hx;clear hx;by_cases pA:x=op
     .have q1:(x == op)=true:=by simpa using pA
      have a2:=ae (D7 (op:=op) (k:=k) ad (by rw[<-pA];exact JL aJ.o));clear pA;go_wp2;go_ret;exact⟨ret_int a2.symm,bL.trans cY.2⟩
     .have q1:(x == op)=false:=by simpa using pA
      have T:=ae pA;clear pA;go_wp2
      go_round
      case rel=>exact⟨j+1,ad,by go_num,λi y I aa=>by
       by_cases V:i=j
       .subst V;rw[aJ.o] at aa;injection aa with aa;subst aa;exact T.o
       .exact bd.o i y ad aa⟩
      case measure=>exact aU
    .have c:j=n:=ad;have cT:=ae (show op∉ha k from λhm=>by
      obtain⟨i,I⟩:=List.getElem?_of_mem hm;have aq:=(List.getElem?_eq_some_iff.1 I).1;have hl:=cY.1.1;exact bd.o i op ad I rfl)
     have cM:decide ((j:Int)<(n:Int))=false:=by simp;omega
     clear c;go_wp2;go_roundw
     case rel=>exact⟨k+1,ad,by go_num,λi I=>by
      by_cases cl:i=k
      .subst cl;exact cT.o
      .exact bN.o i ad,bL.trans cY.2⟩
     case measure=>exact aU
  .have cA:k=5:=ad;have a2:=ae (CC (op:=op) (λi I=>bN.o i ad));subst cA;by_cases aD:op=3\/op=4
   .have N:=ae (a2.trans (if_pos aD));rcases aD with rfl|rfl
    all_goals
     go_wp2;go_ret;exact⟨ret_int N.symm,bL.o⟩
   .have N:=ae (a2.trans (if_neg aD));have c7:(op == 3)=false:=by simp;omega
    have c8:(op == 4)=false:=by simp;omega
    clear aD;go_wp2;go_ret;exact⟨ret_int N.symm,bL.o⟩
theorem EC(x:VE):x.bP=bP x:=by cases x<;>rfl
theorem qi(op n N:Int)(nm:ByteArray)(b o m c:Nat)(k:Nat)(w:World)(aj:k<=1)(Q:k<m)(O:b<w.heap.size)(hc:w.cell? ⟨b,o+k*4,none⟩=some (.int .i64 N)) :
  Calls prog 159 #[.agg #[.int .i64 op,.int .i64 n,.string nm,.slice (some ⟨b,o,none⟩) m c],.int .i64 k] w λe J=>e=.returned (.bool (di op N (k == 1)))/\Ext w J:=by
 have cX:(0:Int)<=(k:Int):=ad;have cp:(k:Int)<(m:Int):=ad;go_enter func159,ntmps159;go_wp2;generalize ba:World.alloc _ _=W;have ar:=aY ba;obtain⟨a0,al,af⟩:=(show au W w.heap.size 72 #[.int .i64 op,.int .i64 n,.string nm,.slice (some ⟨b,o,none⟩) m c] by rw[<-ba];exact Kg).two;have aO:=(ar.cell (j:=o+k*4) O (λh=>h)).trans hc;have f:b<W.heap.size:=JJ O ar.size;have bd:=ae ar;clear ba ar hc;refine fj (λ_=>False) [(0,3),(1,0),(2,3),(3,3),(4,3),(5,0),(7,3),(8,0),(6,1),(9,2),(10,3),(11,3)] ?_;refine pf ?_;refine ph ?_
 iterate 3 refine pf ?_
 refine ph ?_;refine pf ?_;refine ph ?_;refine aP rfl (λK hK=>?_);go_simp;refine(fJ N _).mono ?_;rintro e aL ⟨rfl,L⟩;refine gu hK (L) ?_;clear hK K;have bs:=ae (bd.trans (Fr.aL L));clear L;refine az rfl (λK hK=>?_);go_simp;refine(fJ op _).mono ?_;rintro e aV ⟨rfl,H⟩;refine eC hK ?_;clear hK K;have aT:=ae (bs.trans H);clear H a0 al af aO
 iterate 2 refine pf ?_
 refine aG ?_;have bL:=ae (show di op N (k == 1)=(decide (cK N<cK op) || (cK N == cK op && k == 1)) from rfl);generalize cK N=x at *;generalize cK op=y at *;by_cases ac:x<y
 .have a2:=ae (show di op N (k == 1)=true by rw[bL.o];simp[ac]);clear bL;exact qQ
 have q1:decide (x<y)=false:=by simpa using ac
 by_cases ap:x=y
 .have cM:(x == y)=true:=by simpa using ap
  by_cases aD:k=1
  .have a2:=ae (show di op N (k == 1)=true by rw[bL.o];simp[ap,aD]);have c7:((k:Int) == 1)=true:=by simp;omega
   have a:(k == 1)=true:=by simp;omega
   clear bL ac ap aD;exact qQ
  .have a2:=ae (show di op N (k == 1)=false by rw[bL.o];simp[ap,aD]);have c7:((k:Int) == 1)=false:=by simp;omega
   have a:(k == 1)=false:=by simp;omega
   clear bL ac ap aD;exact qQ
 .have cM:(x == y)=false:=by simpa using ap
  have a2:=ae (show di op N (k == 1)=false by rw[bL.o];simp[ac,ap]);clear bL ac ap;exact qQ
theorem Gv:cA prog 164 9 (.string ⟨#[]⟩) 1 16:=cA.mk' Tryz.underlying164 (by kernel_rfl) rfl ad
def bO(x:VE):List UInt8:=aQ (cg x)
def fN(op:Int)(k:Nat)(y:VE):List UInt8:=aQ (par (di op (bP y) (k == 1)) (cg y))
def fS:VE->List (List UInt8)
 | .un op x=>[fN op 0 x]
 | .bin op x y=>[fN op 0 x,fN op 1 y]
 | _=>[]
theorem vT(op:Int)(k:Nat)(y:VE):fN op k y=if di op (bP y) (k == 1) then 40::(bO y++[41]) else bO y:=by
 unfold fN par bO;split
 .rw[aZ,a2];rfl
 .rfl
theorem vU(op:Int)(k:Nat)(y:VE):(bO y).length<=(fN op k y).length:=by
 rw[vT];split<;>simp
 omega
theorem wG(op:Int)(x:VE):bO (.un op x)=(if op=3 then 45 else 33)::fN op 0 x:=by
 unfold bO cg fN;rw[aZ];split<;>rfl
theorem s5(op:Int)(x y:VE):bO (.bin op x y)=fN op 0 x++32::(gh op++32::fN op 1 y):=by
 unfold bO cg fN;rw[a2,aZ,aZ,aZ];rfl
theorem jX(x:VE){t:List UInt8}(h:(fS x)[k]?=some t):t.length<=(bO x).length:=by
 cases x with
 | un op x=>
  rw[wG]
  match k,h with
  | 0,h=>simp[fS] at h;subst h;simp
 | bin op x y=>
  rw[s5]
  match k,h with
  | 0,h=>simp[fS] at h;subst h;simp
  | 1,h=>simp[fS] at h;subst h;simp;omega
 | num n=>simp[fS] at h
 | eP n=>simp[fS] at h
 | loc n=>simp[fS] at h
 | hP n=>simp[fS] at h
theorem lv(x:VE)(h:x.args[k]?=some y):(fS x)[k]?=some (fN x.bP k y)/\k<=1:=by
 cases x with
 | un op x=>
  match k,h with
  | 0,h=>simp[VE.args] at h;subst h;simp[fS,VE.bP]
 | bin op x y=>
  match k,h with
  | 0,h=>simp[VE.args] at h;subst h;simp[fS,VE.bP]
  | 1,h=>simp[VE.args] at h;subst h;simp[fS,VE.bP]
 | num n=>simp[VE.args] at h
 | eP n=>simp[VE.args] at h
 | loc n=>simp[VE.args] at h
 | hP n=>simp[VE.args] at h
theorem wY(x:VE):(fS x).length=x.args.length:=by cases x<;>rfl
theorem r6(x:VE):x.args.length<=2:=by cases x<;>simp[VE.args]
theorem pd{N:Kk}{d:Nat}(h:x.src N (d+1))(aa:x.args[k]?=some y):y.src N d:=by
 cases x with
 | un op x=>
  match k,aa with
  | 0,aa=>simp[VE.args] at aa;subst aa;exact h.2
 | bin op x y=>
  match k,aa with
  | 0,aa=>simp[VE.args] at aa;subst aa;exact h.2.1
  | 1,aa=>simp[VE.args] at aa;subst aa;exact h.2.2
 | num n=>simp[VE.args] at aa
 | eP n=>simp[VE.args] at aa
 | loc n=>simp[VE.args] at aa
 | hP n=>simp[VE.args] at aa
theorem pe{N:Kk}(h:x.src N 0):x.args=[]:=by
 cases x with
 | un op x=>exact h.elim
 | bin op x y=>exact h.elim
 | num n=>rfl
 | eP n=>rfl
 | loc n=>rfl
 | hP n=>rfl
theorem EW{i:Nat}(h:5<=op/\op<=17)(I:(ha (cK op).toNat)[i]?=some op):(vg (cK op).toNat)[i]?=some (strOf (gh op)):=by
 obtain⟨ac,ap⟩:=h;obtain rfl|rfl|rfl|rfl|rfl|rfl|rfl|rfl|rfl|rfl|rfl|rfl|rfl:op=5\/op=6\/op=7\/op=8\/op=9\/op=10\/op=11\/op=12\/op=13\/op=14\/op=15\/op=16\/op=17:=ad
 all_goals
  match i,I with
  | 0,I=>first|rfl|(exact absurd I (by decide))
  | 1,I=>first|rfl|(exact absurd I (by decide))
  | 2,I=>first|rfl|(exact absurd I (by decide))
  | 3,I=>first|rfl|(exact absurd I (by decide))
  | 4,I=>first|rfl|(exact absurd I (by decide))
  | 5,I=>first|rfl|(exact absurd I (by decide))
  | i+6,I=>simp[ha,cS,cK] at I
theorem sX(h:5<=op/\op<=17):∃k:Nat,k<=4/\cK op=k/\op∈ha k:=by
 obtain⟨ac,ap⟩:=h;obtain rfl|rfl|rfl|rfl|rfl|rfl|rfl|rfl|rfl|rfl|rfl|rfl|rfl:op=5\/op=6\/op=7\/op=8\/op=9\/op=10\/op=11\/op=12\/op=13\/op=14\/op=15\/op=16\/op=17:=ad
 all_goals first|exact⟨0,ad,rfl,by decide⟩|exact⟨1,ad,rfl,by decide⟩|exact⟨2,ad,rfl,by decide⟩|exact⟨3,ad,rfl,by decide⟩|exact⟨4,ad,rfl,by decide⟩
def xW(x:VE):Prop:=∀(op n:Int) (s:ByteArray) (A:Kj) (m c:Nat) (w:World),(bB x).rep w (ao w) [.int .i64 op,.int .i64 n,.string s,.slice A m c]->(bO x).length<=262144->
 Calls prog 150 #[.agg #[.int .i64 op,.int .i64 n,.string s,.slice A m c]] w λe J=>e=.returned (.string (strOf (bO x)))/\Ext w J
theorem vh{l:List (List UInt8)}{t:List UInt8}(h:l[k]?=some t):(l.take (k+1)).map (λt=>Value.string (strOf t))=(l.take k).map (λt=>Value.string (strOf t))++[Value.string (strOf t)]:=by
 rw[List.take_add_one,h,JP];rfl
theorem CW(l:Kk):l.flatMap m6=l.map Value.string:=by
 induction l with
 | nil=>rfl
 | cons a l ab=>rw[J2,ab];rfl
theorem xv{A:Kj}{c:Nat}{l:List (List UInt8)}(h:w.ownsRow base e 1 (.slice A n c) n (l.map λt=>Value.string (strOf t)))(hl:l.length=n):cB (EF m6) 1 w w.heap.size A n (l.map strOf):=
 iV (f:=m6) (l:=l.map strOf) (by rw[CW,List.map_map];exact h) (λ_ _=>rfl) (by rw[JM];exact hl)
structure nN(w wr:World)(x:VE)(A:Kj)(m c:Nat):Prop where
 ext:Ext w wr
 blk:au wr w.heap.size 72 #[.int .i64 x.bP,.int .i64 x.numOf,.string x.dt,.slice A m c]
 args:Sl wr (ao w) A m (x.args.map bB)
theorem nN.on{w wr J:World}{x:VE}{A:Kj}{m c:Nat}(h:nN w wr x A m c)(O:Fr (λb=>w.heap.size<b) wr J):nN w J x A m c:=
 ⟨⟨O.os.trans h.ext.os,O.tape.trans h.ext.tape,O.output.trans h.ext.output,JZ h.ext.size O.size,λk aj hn=>(O.block k (JJ aj h.ext.size) ad).trans (h.ext.block k aj hn)⟩,
  h.blk.on O ad,h.args.al λb aq=>O.block b (JJ aq h.ext.size) (by have:b<w.heap.size:=aq;omega)⟩
theorem GB{sz:Nat}{v:Value}{xs:List Value}(aE:w.ownsRow base e sz v n xs)(aS:w.grownBy J v.ownBlock)(O:∀g,base<=g->M g):Fr M w J:=
 (Fr.refl M w).grown aS λk aj=>.inl (O k (aE.lt k aj).1)
theorem Ext.fr(h:Ext w J):Fr M w J:=h.mono λ_ h=>h.elim
namespace AJ
theorem nP(h:p:=by
 have ah:m<=2:=by rw[<-hs.1,JM];exact r6 x
 have bS:(fS x).length=m:=by rw[wY,<-hs.1,JM]
 obtain⟨bC,bF,b2,aJ,l⟩:=BG bS hs ab hx hlen;clear aZ hs ab hx hlen bS;go_enter func150,ntmps150;go_wp2;generalize ba:World.alloc _ _=W;have hT:nN w W x A m c:=by
  have ar:=aY ba;exact⟨ar,by rw[<-ba];exact Kg,bF.al λb aq=>ar.block b aq (λh=>h)⟩
 have b1:=ae hT;clear ba hT;go_loopw [3,4] (λsv aX wr=>∃k:Nat,k<=m/\aX=.int .i64 k/\nN w wr x A m c/\wr.ownsRow (w.heap.size+1) 9 1 sv k (((fS x).take k).map λt=>Value.string (strOf t))) (λ_ aX _=>m - (intOf aX).toNat)
 case atStart=>exact⟨0,ad,rfl,b1.o,by simp,.inl ⟨rfl,rfl⟩⟩
 case round=>
  obtain⟨k,aj,rfl,hT,aE⟩:=hrel;clear b1;obtain⟨bP,bQ,rfl,az,_,_,_⟩:=cj aE;obtain⟨b1,cY⟩:=aI hT aE;obtain⟨a0,al,af⟩:=hT.blk.two;clear hT aE;by_cases aq:k<m
  .obtain⟨b,o,y,cs,rfl,O,aa,P,a8,Z⟩:=b1.args.iG c4 aq
   match cs,a8 with
   | [cD,b5,b3,bA],_=>
   have c0:=Z 0 cD rfl;have c1:=Z 1 b5 rfl;have c2:=Z 2 b3 rfl;have c3:=Z 3 bA rfl;simp only[JS] at c0;have aN:b<wr.heap.size:=JJ O b1.ext.size;clear Z O;obtain⟨B,bE,bc,e,cp,G⟩:=bj.1 P;simp only[List.cons.injEq,and_true] at e;obtain⟨rfl,rfl,rfl,rfl⟩:=e;have bw:=ae aa;have M:=ae (D.aA (c5:=ao wr) (λb aq=>JJ aq b1.ext.size) _ _ P);clear aa P G;go_wp2_with(fail);refine(b2.o k y bw.o _ _ _ _ _ _ wr M.o ?_).mono ?_
   .exact JZ (vU x.bP k y) (JZ (jX x (lv x bw.o).1) l.o)
   rintro e aL ⟨rfl,L⟩;have bI:=(lv x bw.o).2;have J:=ae (b1.on L.fr);have d0:=(L.cell (j:=o+k*4) aN (λh=>h)).trans c0;have bY:b<aL.heap.size:=JJ aN L.size;have ap:=ae (bT cY.o (Fr.ext L));clear b1 cY a0 al af c0 c1 c2 c3 L aN;obtain⟨a0,al,af⟩:=J.blk.two;go_wp2_with(fail);refine(qi x.bP x.numOf y.bP x.dt b o m c k aL bI aq bY d0).mono ?_;rintro e aV ⟨rfl,H⟩;have r:=ae (J.on H.fr);have av:=ae (bT ap.o (Fr.ext H));clear J ap a0 al af d0 bY H;obtain⟨a0,al,af⟩:=r.blk.two;have HA:=ae (vT x.bP k y);have U:=ae (lv x bw.o).1;have bi:(strOf (bO y)).size<=262144:=by
    rw[aM];exact JZ (vU x.bP k y) (JZ (jX x (lv x bw.o).1) l.o)
   rw[<-EC] at *;have G:w.heap.size+1<=aV.heap.size:=r.blk.lt;by_cases I:di x.bP y.bP (k == 1)=true
   .rw[I];have S:=ae (show (⟨#[40]⟩:ByteArray)++strOf (bO y)++⟨#[41]⟩=strOf (fN x.bP k y) by
     rw[HA.o,if_pos I,show (⟨#[40]⟩:ByteArray)=strOf [40] from rfl,show (⟨#[41]⟩:ByteArray)=strOf [41] from rfl,ag,ag];simp)
    clear I HA;exact FC
   .have F:di x.bP y.bP (k == 1)=false:=by simpa using I
    rw[F];have S:=ae (show strOf (bO y)=strOf (fN x.bP k y) by rw[HA.o,if_neg I]);clear I F HA;exact FC
  .have Q:k=m:=ad;subst Q;have a2:=ae (xv (by
    have:=cY.o;rw[<-bC.o,List.take_length] at this;rw[<-bC.o];exact this) bC.o)
   have bd:=ae b1.ext;clear cY b2;have ay:decide ((k:Int)<(k:Int))=false:=by simp
   cases x with
   | num n=>
    have hn:0<=n/\n<4611686018427387904:=by have:=aJ.o;cases d<;>exact this
    have bN:=ae (show kO n=bO (.num n) by rw[td hn.1];simp[bO,cg,aQ,Atom.bytes]);have O:=k6 n wr ad;simp only[VE.bP,VE.numOf,VE.dt] at *;clear ay;go_wp2_with(fail);refine O.mono ?_;rintro e aL ⟨rfl,L⟩;have bs:=ae (bd.trans (Fr.of L));clear L O;go_wp2;go_ret
    exact⟨ret_str (by rw[bN.o]),bs.o⟩
   | eP s=>
    simp only[VE.bP,VE.numOf,VE.dt] at *;have bN:=ae (show s=strOf (bO (.eP s)) by simp[bO,cg,aQ,Atom.bytes,strOf]);go_wp2;go_ret
    exact⟨ret_str bN.o,bd.o⟩
   | loc j=>exact(by have:=aJ.o;cases d<;>exact this:False).elim
   | hP j=>exact(by have:=aJ.o;cases d<;>exact this:False).elim
   | un op y=>
    obtain rfl:k=1:=bC.symm;obtain⟨b,o,z,rfl,O,bi,hc⟩:=a2.str (k:=0) ad;have X:strOf (fN op 0 y)=z:=by simpa[fS] using bi
    subst X;have bH:(strOf (fN op 0 y)).size<=262144:=by
     rw[aM];exact JZ (jX (.un op y) (k:=0) rfl) l.o
    have cf:op=3\/op=4:=by
     cases d with
     | zero=>exact aJ.elim
     | succ d=>exact aJ.1
    have r:=ae (wG op y);simp only[JS] at hc;clear bi aJ b1 l bC ah bX ay af az;rcases cf with rfl|rfl
    .have bN:=ae (show (⟨#[45]⟩:ByteArray)++strOf (fN 3 0 y)=strOf (bO (.un 3 y)) by rw[r.o,if_pos rfl];exact ag [45] _);clear r;generalize fN 3 0 y=t at *;exact ym
    .have bN:=ae (show (⟨#[33]⟩:ByteArray)++strOf (fN 4 0 y)=strOf (bO (.un 4 y)) by rw[r.o,if_neg ad];exact ag [33] _);clear r;generalize fN 4 0 y=t at *
     exact ym
   | bin op y z=>
    obtain rfl:k=2:=bC.symm;obtain⟨b,o,a3,rfl,O,ac,q⟩:=a2.str (k:=0) ad;obtain⟨Y,ai,db,e,_,bu,b4⟩:=a2.str (k:=1) ad;simp only[Ka,Addr.mk.injEq,and_true] at e;obtain⟨rfl,rfl⟩:=e;have X:strOf (fN op 0 y)=a3:=by simpa[fS] using ac
    have aC:strOf (fN op 1 z)=db:=by simpa[fS] using bu
    subst X aC;have aG:(strOf (fN op 0 y)).size<=262144:=by
     rw[aM];exact JZ (jX (.bin op y z) (k:=0) rfl) l.o
    have aK:(strOf (fN op 1 z)).size<=262144:=by
     rw[aM];exact JZ (jX (.bin op y z) (k:=1) rfl) l.o
    have cf:5<=op/\op<=17:=by
     cases d with
     | zero=>exact aJ.elim
     | succ d=>exact aJ.1
    have bN:=ae (show ((strOf (fN op 0 y)++⟨#[32]⟩)++strOf (gh op))++⟨#[32]⟩++strOf (fN op 1 z)=strOf (bO (.bin op y z)) by
     rw[s5,show (⟨#[32]⟩:ByteArray)=strOf [32] from rfl,ag,ag,ag,ag];simp)
    have aO:(strOf (gh op)).size<=2:=by
     rw[aM];unfold gh
     repeat' split
     all_goals simp
    have o1:(op == 1)=false:=by simp;omega
    have dm:(op == 2)=false:=by simp;omega
    have o3:(op == 3)=false:=by simp;omega
    have o4:(op == 4)=false:=by simp;omega
    obtain⟨R,cH,bq,bK⟩:=sX cf;have aA:=ae (λ(i:Nat)=>EW (i:=i) cf);obtain⟨an,cP⟩:=aI bK bq;simp only[JS] at q;clear ac bu aJ l bC ah bX ay af az a2 bK cf;generalize strOf (fN op 0 y)=t0 at *;generalize strOf (fN op 1 z)=t1 at *;generalize strOf (gh op)=sg at *;simp only[VE.bP,VE.numOf,VE.dt] at *;go_wp2_with(fail);refine(fJ op wr).mono ?_;rintro e aL ⟨rfl,L⟩;rw[bq];go_wp2_with(fail);refine(qz R cH aL).mono ?_;rintro e aV ⟨bP,bm,n,hn,rfl,hs,bb,H⟩;have u:=L.trans H;have aT:=ae (bd.trans u);have e0:=(u.cell (j:=o) O (λh=>h)).trans q;have e1:=(u.cell (j:=o+1) O (λh=>h)).trans b4;have bv:b<aV.heap.size:=JJ O u.size;have r:=ae (b1.on (Ext.fr u));obtain⟨b0,am,aw⟩:=r.blk.two;simp only[VE.bP,VE.numOf,VE.dt] at b0;have cY:=ak hs bb;clear hs bb L H u q b4 O a0 al b1 bd bq;go_wp2_with(fail);go_loopw [8] (λcr wr=>∃j:Nat,j<=n/\cr=.int .i64 j/\(∀(i:Nat) (x:Int),i<j->(ha R)[i]?=some x->x≠op)/\Ext aV wr) (λcr _=>n - (intOf cr).toNat)
    case atStart=>exact⟨0,ad,rfl,λi x h=>ad,Kf⟩
    case round=>
     obtain⟨j,be,rfl,aH,b6⟩:=hrel;obtain⟨cb,a4⟩:=aI aH b6;obtain⟨v0,a7⟩:=Fr.xC b6;clear aH b6;by_cases K:j<n
     .obtain⟨c1,a5,x,rfl,br,hx,aP⟩:=cY.2.int K;obtain⟨c2,a6,gD,rfl,aF,cV,aB⟩:=cY.1.str K;have aJ:=ae hx;by_cases pA:x=op
      .subst pA;have v:=aA.o j (by rw[cP.o];exact hx);rw[cP.o,J3,cV] at v;injection v with v;subst v;clear hx cV;go_wp2;go_quiet (fail)
       go_wp2;go_quiet (fail)
       go_wp2;go_ret;exact⟨ret_str bN.o,aT.trans ((a4.drewN _).drewN _)⟩
      .have q1:(x == op)=false:=by simpa using pA
       have T:=ae pA;clear pA hx cV;go_wp2;go_quiet (fail)
       go_wp2
       go_round
       case rel=>refine⟨j+1,ad,by go_num,λi y I aa=>?_,?_⟩;rotate_left;exact a4.drewN _;exact(by
        by_cases V:i=j
        .subst V;rw[aJ.o] at aa;injection aa with aa;subst aa;exact T.o
        .exact cb.o i y ad aa)
       case measure=>exact aU
     .exfalso;obtain⟨i,I⟩:=List.getElem?_of_mem an.o;have aq:=(List.getElem?_eq_some_iff.1 I).1;have hl:=cY.2.1;exact cb.o i op ad I rfl
 ):p:=h
end AJ
open AJ in
theorem qB(N:Kk)(d:Nat)(x:VE)(hx:x.src N d)(ab:∀(k:Nat) (y:VE),x.args[k]?=some y->xW y):xW x:=by
 intro op n s A m c w aZ hlen;exact nO
theorem ja(N:Kk):∀(d:Nat) (x:VE),x.src N d->xW x
 | 0,x,h=>qB N 0 x h λk y aa=>by rw[pe h] at aa;simp at aa
 | d+1,x,h=>qB N (d+1) x h λk y aa=>ja N d y (pd h aa)
def ft(r:eR):List UInt8:=aQ (hA r)
theorem vi(h:r.idx=none):ft r=r.name.data.toList:=by
 unfold ft hA;rw[h];simp[aQ,Atom.bytes]
theorem vj{e:VE}(h:r.idx=some e):ft r=r.name.data.toList++91::(bO e++[93]):=by
 unfold ft hA bO;rw[h];simp[aQ,Atom.bytes]
theorem iM:(kF r).rep w P cs↔∃A n c,cs=[.string r.name,.slice A n c]/\n<=c/\Sl w P A n (r.idx.toList.map bB):=by
 unfold kF;rw[bK,dj];constructor
 .rintro⟨y,rfl,h⟩;obtain⟨A,n,c,bA,rfl,hc,hs,aD⟩:=aO.1 h;exact qO
 .rintro⟨A,n,c,rfl,hc,hs⟩;exact yz
def DI(r:eR):Prop:=∀e,r.idx=some e->∃N d,e.src N d
theorem cV(s:ByteArray):strOf s.data.toList=s:=by simp[strOf]
namespace AK
theorem yF(h:p:=by
 refine pf ?_;refine aG ?_;go_wp2;go_ret;exact⟨ret_str bN.o,bd.trans (Fr.aL L)⟩
 ):p:=h
end AK
open AK in
theorem j5(r:eR)(ay:DI r)(s:ByteArray)(A:Kj)(n c:Nat)(w:World)(aZ:(kF r).rep w (ao w) [.string s,.slice A n c])(hlen:(ft r).length<=262144) :
  Calls prog 152 #[.agg #[.string s,.slice A n c]] w λe J=>e=.returned (.string (strOf (ft r)))/\Ext w J:=by
 obtain⟨a1,aQ,aW,e,a7,hs⟩:=iM.1 aZ;simp only[List.cons.injEq,Value.string.injEq,Value.slice.injEq,and_true] at e;obtain⟨rfl,rfl,rfl,rfl⟩:=e
 cases I:r.idx with
 | none=>
  rw[I] at hs;obtain rfl:n=0:=hs.1.symm;have bN:=ae (show r.name=strOf (ft r) by rw[vi I,cV]);clear I hs aZ hlen ay;go_enter func152,ntmps152;go_wp2;go_ret
  exact⟨ret_str bN.o,Kf.alloc _⟩
 | some x=>
  rw[I] at hs;obtain rfl:n=1:=hs.1.symm;obtain⟨N,d,hx⟩:=ay x I;obtain⟨b,o,bl,Z,U,F,rfl,O,bs,c0,c1,c2,c3⟩:=Sl.Dj hs (c4 x);obtain⟨B,bE,bc,e,cp,G⟩:=bj.1 bs;simp only[List.cons.injEq,and_true] at e;obtain⟨rfl,rfl,rfl,rfl⟩:=e;have aN:b<w.heap.size:=O;have b1:=ae (vj I);have ac:r.name.size<=262144:=by
   have:=hlen;rw[b1.o,JK] at this;have ap:r.name.size=r.name.data.toList.length:=rfl;omega
  have bu:(bO x).length<=262144:=by
   have:=hlen;rw[b1.o,JK] at this;simp at this;omega
  have bN:=ae (show r.name++⟨#[91]⟩++strOf (bO x)++⟨#[93]⟩=strOf (ft r) by
   rw[b1.o,show (⟨#[91]⟩:ByteArray)=strOf [91] from rfl,show (⟨#[93]⟩:ByteArray)=strOf [93] from rfl];conv=>lhs;rw[<-cV r.name]
   rw[ag,ag,ag];simp)
  have bn:=ae bu;have dc:(strOf (bO x)).size<=262144:=by rw[aM];exact bu
  have aJ:=ae (ja N d x hx);have aq:=ae bs;clear I hs aZ hlen ay b1 bs G O bu hx;go_enter func152,ntmps152;go_wp2;generalize ba:World.alloc _ _=W;have ar:=aY ba;obtain⟨a0,al,af⟩:=(show au W w.heap.size 182 #[.string r.name,.slice (some ⟨b,o,none⟩) 1 c] by rw[<-ba];exact Kg).two;have d0:=(ar.cell (j:=o) aN (λh=>h)).trans c0;have d1:=(ar.cell (j:=o+1) aN (λh=>h)).trans c1;have d2:=(ar.cell (j:=o+2) aN (λh=>h)).trans c2;have d3:=(ar.cell (j:=o+3) aN (λh=>h)).trans c3;have f:b<W.heap.size:=JJ aN ar.size;have bd:=ae ar;clear ba ar c0 c1 c2 c3 aN;refine fj (λ_=>False) [(0,3),(1,0),(2,3),(3,3),(4,0),(5,3),(6,0),(7,1),(8,3),(9,3),(10,3)] ?_;refine pf ?_;refine ph ?_;refine bf (v:=?_) rfl (by rfl) (λV=>?_) ?_;rotate_left
  .go_simp;exact dK
  try simp only[PU]
  refine pf ?_;refine ph ?_;refine pf ?_;refine ph ?_;refine aP rfl (λK hK=>?_);go_simp;refine(aJ.o _ _ _ _ _ _ _ (D.on aq.o (Fr.ext bd.drew)) bn.o).mono ?_;exact yE
def mX(a:dh):List UInt8:=aQ (e4 a)
def iq(l:List dh):List UInt8:=40::aQ (dE (l.map e4))
def gY(l:List dh):List UInt8:=aQ (h9 l)
theorem qA(l:List dh):gY l=iq l++[41]:=by
 unfold gY h9 iq;rw[aZ,a2];rfl
theorem k0:∀(l:List (List Atom)) (a:List Atom),dE (l++[a])=if l=[] then a else dE l++(.sg [44]::.ws 32::a)
 | [],a=>rfl
 | [b],a=>by simp[dE]
 | b::d::l,a=>by
  have ab:=k0 (d::l) a;rw[if_neg (by simp)] at ab;rw[if_neg (by simp)];show dE (b::d::(l++[a]))=_
  simp only[dE];rw[JX] at ab;rw[ab];simp
theorem pS{aH:List dh}{a:dh}(h:aH[k]?=some a):iq (aH.take (k+1))=iq (aH.take k)++((if 0<k then [44,32] else [])++mX a):=by
 have aj:k<aH.length:=(List.getElem?_eq_some_iff.1 h).1;unfold iq mX;rw[List.take_add_one,h,JP];show (40:UInt8)::aQ (dE (List.map e4 (List.take k aH)++[e4 a]))=_
 rw[k0];by_cases h0:0<k
 .rw[if_neg (by intro e;have:=congrArg List.length e;simp only[JM,List.length_take,J1] at this;omega),if_pos h0,a2,aZ,aZ];simp[Atom.bytes]
 .obtain rfl:k=0:=ad;simp[dE,aQ]
theorem wV(aH:List dh)(k:Nat):(iq (aH.take k)).length<=(iq (aH.take (k+1))).length:=by
 cases h:aH[k]? with
 | none=>rw[JQ (i:=k+1) (by have:=List.getElem?_eq_none_iff.1 h;omega),JQ (List.getElem?_eq_none_iff.1 h)];exact JI _
 | some a=>rw[pS h];simp
theorem vO(aH:List dh):∀j k:Nat,(iq (aH.take k)).length<=(iq (aH.take (k+j))).length
 | 0,k=>JI _
 | j+1,k=>JZ (vO aH j k) (wV aH (k+j))
theorem r5(aH:List dh)(aj:k<=aH.length):(iq (aH.take k)).length<=(gY aH).length:=by
 have:=vO aH (aH.length - k) k;rw[show k+(aH.length - k)=aH.length by omega,List.take_length] at this;rw[qA];simp;omega
def EX:dh->Prop
 | .mx r=>DI r
 | .ex e=>∃N d,e.src N d
theorem rj(a:dh):(eg a).sz=7:=by
 cases a with
 | mx r=>rfl
 | ex e=>show D.xL [.b false,fM,bB e]=7;simp only[D.xL,c4,D.sz,fM]
theorem dm{d:D}{l:List D}:D.aR w P (d::l) cs↔∃x y,cs=x++y/\d.rep w P x/\D.aR w P l y:=by simp only[D.aR]
theorem Ef(h:(eg (.mx r)).rep w P cs):∃s A n c e0 e1 e2 e3,cs=[.bool true,.string s,.slice A n c,e0,e1,e2,e3]/\(kF r).rep w P [.string s,.slice A n c]:=by
 unfold eg at h;rw[bK,eN] at h;obtain⟨y,rfl,h⟩:=h;obtain⟨x,b3,rfl,hx,aa⟩:=dm.1 h;obtain⟨A,n,c,rfl,hc,hs⟩:=iM.1 hx;rw[D.bt] at aa;obtain⟨bg,c2,rfl⟩:=eF.1 aa;exact⟨_,A,n,c,_,_,_,_,rfl,hx⟩
namespace AL
theorem tG(h:p:=by
 obtain⟨A,n,c,bt,rfl,_,_,bi⟩:=aO.1 hx;rw[aS] at bi;subst bi;exact yc
 ):p:=h
end AL
open AL in
theorem Ee{e:VE}(h:(eg (.ex e)).rep w P cs):∃bh r1 op n s A m c,cs=[.bool false,bh,r1,.int .i64 op,.int .i64 n,.string s,.slice A m c]/\(bB e).rep w P [.int .i64 op,.int .i64 n,.string s,.slice A m c]:=by
 exact tF
theorem ra(aH:List dh)(ay:∀a∈aH,EX a)(A:Kj)(n c:Nat)(w:World)(hs:Sl w (ao w) A n (aH.map eg))(hlen:(gY aH).length<=262144)(hn:n<=1000) :
  Calls prog 151 #[.slice A n c] w λe J=>e=.returned (.string (strOf (gY aH)))/\Ext w J:=by
 have hl:aH.length=n:=by rw[<-hs.1,JM]
 obtain⟨bW,bF,b1,l⟩:=jF hl hs ay hlen;clear hs ay hlen hl;go_enter func151,ntmps151;go_wp2;go_loopw [3,4] (λsv aX wr=>∃k:Nat,k<=n/\aX=.int .i64 k/\sv=.string (strOf (iq (aH.take k)))/\Ext w wr) (λ_ aX _=>n - (intOf aX).toNat)
 case atStart=>exact⟨0,ad,rfl,rfl,Kf⟩
 case round=>
  obtain⟨k,aj,rfl,rfl,ar⟩:=hrel;have bd:=ae ar;clear ar;have bi:(strOf (iq (aH.take k))).size<=262144:=by
   rw[aM];exact JZ (r5 aH (by rw[bW.o];exact aj)) l.o
  by_cases aq:k<n
  .obtain⟨b,o,a,cs,rfl,O,bE,H,a8,Z⟩:=(bF.on (Fr.ext bd.o)).iG rj aq;have aN:b<wr.heap.size:=O;have HA:=ae bE;have i:=ae (pS bE);have cy:=ae (b1.o a (JL bE));have cn:(mX a).length<=262144:=by
    have ac:=r5 aH (k:=k+1) (by rw[bW.o];exact aq);rw[i.o] at ac;have ap:=l.o;simp at ac;omega
   have f:=ae cn;have dc:(strOf (mX a)).size<=262144:=by rw[aM];exact cn
   clear bE cn O
   cases a with
   | mx r=>
    obtain⟨s,cq,cu,rc,e0,e1,e2,e3,rfl,ak⟩:=Ef H;have c0:=Z 0 _ rfl;have c1:=Z 1 _ rfl;have c2:=Z 2 _ rfl;simp only[JS] at c0;have m:=ae ak;clear Z H ak;have v:=ae (show mX (.mx r)=[109,117,116,101,120,32]++ft r by
     unfold mX e4 ft;rw[aZ,aZ];simp[kw,fk,Atom.bytes])
    have t:(ft r).length<=262144:=by
     have:=f.o;rw[v.o] at this;simp at this;omega
    have u:=ae t;have z:(strOf (ft r)).size<=262144:=by rw[aM];exact t
    clear t;by_cases h0:0<k
    ·
     have q:decide ((k:Int) > 0)=true:=by simp;omega
     have S:=ae (show strOf (iq (aH.take k))++⟨#[44,32]⟩++⟨#[109,117,116,101,120,32]⟩++strOf (ft r)=strOf (iq (aH.take (k+1))) by
      rw[i.o,if_pos h0,v.o,show (⟨#[44,32]⟩:ByteArray)=strOf [44,32] from rfl,show (⟨#[109,117,116,101,120,32]⟩:ByteArray)=strOf [109,117,116,101,120,32] from rfl,ag,ag,ag]
      try simp)
     go_wp2_with(fail);refine(j5 r cy.o s cq cu rc wr m.o u.o).mono ?_;rintro e aL ⟨rfl,L⟩;have bs:=ae (bd.trans L);clear L c0 c1 c2 bd;exact vJ
    ·
     have q:decide ((k:Int) > 0)=false:=by simp;omega
     have S:=ae (show strOf (iq (aH.take k))++⟨#[109,117,116,101,120,32]⟩++strOf (ft r)=strOf (iq (aH.take (k+1))) by
      rw[i.o,if_neg h0,v.o,show (⟨#[109,117,116,101,120,32]⟩:ByteArray)=strOf [109,117,116,101,120,32] from rfl,ag,ag]
      try simp)
     go_wp2_with(fail);refine(j5 r cy.o s cq cu rc wr m.o u.o).mono ?_;rintro e aL ⟨rfl,L⟩;have bs:=ae (bd.trans L);clear L c0 c1 c2 bd
     exact vJ
   | ex x=>
    obtain⟨bh,r1,op,j,s,EA,em,ec,rfl,g⟩:=Ee H;have c0:=Z 0 _ rfl;have c1:=Z 3 _ rfl;have c2:=Z 4 _ rfl;have c3:=Z 5 _ rfl;have E:=Z 6 _ rfl;simp only[JS] at c0;have y:=ae g;have z:(strOf (bO x)).size<=262144:=dc;obtain⟨N,d,hx⟩:=cy.o;have aJ:=ae (ja N d x hx);clear Z H g hx cy;by_cases h0:0<k
    ·
     have q:decide ((k:Int) > 0)=true:=by simp;omega
     have S:=ae (show strOf (iq (aH.take k))++⟨#[44,32]⟩++strOf (bO x)=strOf (iq (aH.take (k+1))) by
      rw[i.o,show mX (.ex x)=bO x from rfl,if_pos h0,show (⟨#[44,32]⟩:ByteArray)=strOf [44,32] from rfl,ag,ag]
      try simp)
     go_wp2_with(fail);refine(aJ.o op j s EA em ec wr y.o f.o).mono ?_;rintro e aL ⟨rfl,L⟩;have bs:=ae (bd.trans L);clear L c0 c1 c2 c3 E bd;exact vJ
    ·
     have q:decide ((k:Int) > 0)=false:=by simp;omega
     have S:=ae (show strOf (iq (aH.take k))++strOf (bO x)=strOf (iq (aH.take (k+1))) by
      rw[i.o,show mX (.ex x)=bO x from rfl,if_neg h0,ag]
      try simp)
     go_wp2_with(fail);refine(aJ.o op j s EA em ec wr y.o f.o).mono ?_;rintro e aL ⟨rfl,L⟩;have bs:=ae (bd.trans L);clear L c0 c1 c2 c3 E bd;exact vJ
  .obtain rfl:k=n:=ad;have S:=ae (show strOf (iq (aH.take k))++⟨#[41]⟩=strOf (gY aH) by
    rw[qA,<-bW.o,List.take_length,<-ag];rfl)
   go_wp2;go_ret;exact⟨ret_str S.o,bd.o⟩
inductive aE where
 | set (v:Bool) (n:ByteArray) (e:VE)
 | call (g:Bool) (n:ByteArray) (aH:List dh)
 | lock (u:Bool) (r:eR)
 | ite (e:VE) (th el:an)
 | fL (e:VE) (th:an)
 | ret
def an.list:an->List aE
 | .nil=>[]
 | .set v n e rest=>.set v n e::rest.list
 | .call g n aH rest=>.call g n aH::rest.list
 | .lock u r rest=>.lock u r::rest.list
 | .ite e th el rest=>.ite e th el::rest.list
 | .fL e th rest=>.fL e th::rest.list
 | .ret rest=>.ret::rest.list
def cc:aE->D
 | .set v n e=>gG (if v then 1 else 2) n (bB e) fM [] [] []
 | .call g n aH=>gG (if g then 4 else 3) n jM fM (aH.map eg) [] []
 | .lock u r=>gG (if u then 6 else 5) ⟨#[]⟩ jM (kF r) [] [] []
 | .ite e th el=>gG 7 ⟨#[]⟩ (bB e) fM [] (dw th) (dw el)
 | .fL e th=>gG 8 ⟨#[]⟩ (bB e) fM [] (dw th) []
 | .ret=>gG 9 ⟨#[]⟩ jM fM [] [] []
theorem cD:∀b:an,dw b=b.list.map cc
 | .nil=>rfl
 | .set v n e rest=>by simp only[dw,an.list,JO,cc,cD rest]
 | .call g n aH rest=>by simp only[dw,an.list,JO,cc,cD rest]
 | .lock u r rest=>by simp only[dw,an.list,JO,cc,cD rest]
 | .ite e th el rest=>by simp only[dw,an.list,JO,cc,cD rest]
 | .fL e th rest=>by simp only[dw,an.list,JO,cc,cD rest]
 | .ret rest=>by simp only[dw,an.list,JO,cc,cD rest]
def db(t:Nat):aE->List UInt8
 | .set v n e=>List.replicate t 9++((if v then [118,97,114,32] else [])++(n.data.toList++([32,61,32]++(bO e++[59,10]))))
 | .call g n aH=>List.replicate t 9++((if g then [103,111,32] else [])++(n.data.toList++(gY aH++[59,10])))
 | .lock u r=>List.replicate t 9++((if u then [117,110,108,111,99,107,32] else [108,111,99,107,32])++(ft r++[59,10]))
 | .ite e th el=>List.replicate t 9++([105,102,32]++(bO e++([32,123,10]++(aQ (aT (t+1) th)++(List.replicate t 9++([125] ++
   ((if el.isNil then [] else [32,101,108,115,101,32,123,10]++(aQ (aT (t+1) el)++(List.replicate t 9++[125])))++[10])))))))
 | .fL e th=>List.replicate t 9++([119,104,105,108,101,32]++(bO e++([32,123,10]++(aQ (aT (t+1) th)++(List.replicate t 9++[125,10])))))
 | .ret=>List.replicate t 9++[114,101,116,117,114,110,59,10]
def cu(t:Nat)(b:an):List UInt8:=aQ (aT t b)
theorem e6(t:Nat):aQ (eW t)=List.replicate t 9:=by
 induction t with
 | zero=>rfl
 | succ t ab=>unfold eW at *;rw[List.replicate_succ,aZ,ab];rfl
theorem pW:aQ []=[]:=rfl
theorem er(t:Nat):∀b:an,cu t b=(b.list.map (db t)).flatten
 | .nil=>rfl
 | .set v n e rest=>by
  have ab:=er t rest;unfold cu at *;simp only[aT,an.list,JO,List.flatten_cons,<-ab,db,a2,aZ,e6,bO]
  cases v<;>simp[Atom.bytes,kw,aQ]
 | .call g n aH rest=>by
  have ab:=er t rest;unfold cu at *;simp only[aT,an.list,JO,List.flatten_cons,<-ab,db,a2,aZ,e6,gY]
  cases g<;>simp[Atom.bytes,kw,aQ]
 | .lock u r rest=>by
  have ab:=er t rest;unfold cu at *;simp only[aT,an.list,JO,List.flatten_cons,<-ab,db,a2,aZ,e6,ft]
  cases u<;>simp[Atom.bytes,kw,aQ]
 | .ite e th el rest=>by
  have ab:=er t rest;unfold cu at *;simp only[aT,an.list,JO,List.flatten_cons,<-ab,db,a2,aZ,e6,bO];cases hn:el.isNil
  .simp only[Kd,if_false,a2,aZ,e6];simp[Atom.bytes,kw,pW]
  .simp only[if_true]
   simp[Atom.bytes,kw,pW]
 | .fL e th rest=>by
  have ab:=er t rest;unfold cu at *;simp only[aT,an.list,JO,List.flatten_cons,<-ab,db,a2,aZ,e6,bO]
  simp[Atom.bytes,kw]
 | .ret rest=>by
  have ab:=er t rest;unfold cu at *;simp only[aT,an.list,JO,List.flatten_cons,<-ab,db,a2,aZ,e6];simp[Atom.bytes,kw]
def aE.kind:aE->Int
 | .set v _ _=>if v then 1 else 2
 | .call g _ _=>if g then 4 else 3
 | .lock u _=>if u then 6 else 5
 | .ite ..=>7
 | .fL ..=>8
 | .ret=>9
def aE.name:aE->ByteArray
 | .set _ n _=>n
 | .call _ n _=>n
 | _=>⟨#[]⟩
def aE.expr:aE->Option VE
 | .set _ _ e=>some e
 | .ite e _ _=>some e
 | .fL e _=>some e
 | _=>none
def aE.ref:aE->Option eR
 | .lock _ r=>some r
 | _=>none
def aE.args:aE->List dh
 | .call _ _ aH=>aH
 | _=>[]
def aE.th:aE->an
 | .ite _ th _=>th
 | .fL _ th=>th
 | _=>.nil
def aE.el:aE->an
 | .ite _ _ el=>el
 | _=>.nil
def oe:Option eR->D
 | none=>fM
 | some r=>kF r
theorem qb(s:aE):cc s=gG s.kind s.name (m8 s.expr) (oe s.ref) (s.args.map eg) (dw s.th) (dw s.el):=by
 cases s<;>rfl
theorem mh(s:aE):(cc s).sz=11:=by
 rw[qb];have ac:(m8 s.expr).sz=4:=by
  cases s.expr with
  | none=>rfl
  | some x=>exact c4 x
 have ap:(oe s.ref).sz=2:=by cases s.ref<;>rfl
 unfold gG;simp only[D.sz,D.xL,ac,ap]
theorem og{x:Option VE}(h:(m8 x).rep w P cs):∃o n s A m c,cs=[.int .i64 o,.int .i64 n,.string s,.slice A m c]:=by
 cases x with
 | none=>obtain⟨A,c,rfl⟩:=eF.1 h;exact⟨_,_,_,_,_,_,rfl⟩
 | some x=>obtain⟨A,n,c,rfl,_⟩:=bj.1 h;exact⟨_,_,_,_,_,_,rfl⟩
theorem r9{x:Option eR}(h:(oe x).rep w P cs):∃s A m c,cs=[.string s,.slice A m c]:=by
 cases x with
 | none=>
  unfold oe fM at h;rw[bK,dj] at h;obtain⟨z,rfl,hx⟩:=h;obtain⟨A,n,c,bt,rfl,_,_,bi⟩:=aO.1 hx;rw[aS] at bi;subst bi
  exact⟨_,_,_,_,rfl⟩
 | some x=>obtain⟨A,n,c,rfl,_⟩:=iM.1 h;exact⟨_,_,_,_,rfl⟩
structure Hf(w:World)(P:Nat->Prop)(s:aE)(eo en:Int)(es:ByteArray)(EA:Kj)(em ec:Nat)(rs:ByteArray)(cq:Kj)(b5 rc:Nat)(bz:Kj)(n1:Nat)(bg:Kj)(n2:Nat)(bU:Kj)(n3:Nat):Prop where
 expr:(m8 s.expr).rep w P [.int .i64 eo,.int .i64 en,.string es,.slice EA em ec]
 ref:(oe s.ref).rep w P [.string rs,.slice cq b5 rc]
 args:Sl w P bz n1 (s.args.map eg)
 th:Sl w P bg n2 (dw s.th)
 el:Sl w P bU n3 (dw s.el)
theorem mC{s:aE}(h:(cc s).rep w P cs):∃eo en es EA em ec rs cq b5 rc bz n1 c1 bg n2 c2 bU n3 c3,
  cs=[.int .i64 s.kind,.string s.name,.int .i64 eo,.int .i64 en,.string es,.slice EA em ec,.string rs,.slice cq b5 rc,.slice bz n1 c1,.slice bg n2 c2,.slice bU n3 c3]/\
  Hf w P s eo en es EA em ec rs cq b5 rc bz n1 bg n2 bU n3:=by
 rw[qb] at h;unfold gG at h;rw[bK,bm] at h;obtain⟨y,rfl,h⟩:=h;rw[dj] at h;obtain⟨b3,rfl,h⟩:=h;obtain⟨F,bA,rfl,he,h⟩:=dm.1 h;obtain⟨aw,cO,rfl,aZ,h⟩:=dm.1 h;obtain⟨bz,n1,c1,a,rfl,_,ac,h⟩:=aO.1 h;obtain⟨bg,n2,c2,b,rfl,_,ap,h⟩:=aO.1 h;obtain⟨bU,n3,c3,d,rfl,_,aD,h⟩:=aO.1 h;rw[aS] at h;subst h;obtain⟨o,n,s,A,m,c,rfl⟩:=og he;obtain⟨aB,a1,aR,aW,rfl⟩:=r9 aZ
 iterate 19 apply Exists.intro
 exact⟨rfl,he,aZ,ac,ap,aD⟩
def mB:an->Prop
 | .nil=>True
 | .set _ _ e rest=>(∃N d,e.src N d)/\mB rest
 | .call _ _ aH rest=>((∀a∈aH,EX a)/\aH.length<=1000)/\mB rest
 | .lock _ r rest=>DI r/\mB rest
 | .ite e th el rest=>(∃N d,e.src N d)/\mB th/\mB el/\mB rest
 | .fL e th rest=>(∃N d,e.src N d)/\mB th/\mB rest
 | .ret rest=>mB rest
def gI(b:an):Prop:=∀(t:Nat) (A:Kj) (n c:Nat) (w:World),t+b.num<=1000000->Sl w (ao w) A n (dw b)->(cu t b).length<=262144->
 Calls prog 135 #[.slice A n c,.string (strOf (List.replicate t 9))] w λe J=>e=.returned (.string (strOf (cu t b)))/\Ext w J
structure tm(s:aE)(N:Nat):Prop where
 expr:∀e,s.expr=some e->∃N d,e.src N d
 ref:∀r,s.ref=some r->DI r
 args:∀a∈s.args,EX a
 iN:s.args.length<=1000
 th:gI s.th
 el:gI s.el
 GN:s.th.num<N\/s.th=.nil
 GM:s.el.num<N\/s.el=.nil
theorem gA{α:Type}{x:α}(h:(none:Option α)=some x):p:=by cases h
theorem IC(f:∀b:an,(∀s∈b.list,tm s b.num)->gI b):∀b:an,mB b->gI b/\∀s∈b.list,tm s b.num:=by
 have mono:∀{s:aE} {n m:Nat},n<=m->tm s n->tm s m:=λh k=>⟨k.expr,k.ref,k.args,k.iN,k.th,k.el,k.GN.imp (λx=>JJ x h) id,k.GM.imp (λx=>JJ x h) id⟩
 have c:gI .nil:=f .nil λs hs=>by simp[an.list] at hs
 have fin:∀b:an,(∀s∈b.list,tm s b.num)->gI b/\∀s∈b.list,tm s b.num:=λb h=>⟨f b h,h⟩
 intro b
 induction b with
 | nil=>exact λ_=>fin _ λs hs=>by simp[an.list] at hs
 | set v n e rest ab=>
  intro h;refine fin _ λs hs=>?_;rcases JY.1 hs with rfl|hs
  .exact⟨λl he=>(by cases he;exact h.1),λr aZ=>gA aZ,λa bE=>(nomatch bE),by simp[aE.args],c,c,.inr rfl,.inr rfl⟩
  .exact mono (by simp[an.num]) ((ab h.2).2 s hs)
 | call g n aH rest ab=>
  intro h;refine fin _ λs hs=>?_;rcases JY.1 hs with rfl|hs
  .exact⟨λl he=>gA he,λr aZ=>gA aZ,h.1.1,h.1.2,c,c,.inr rfl,.inr rfl⟩
  .exact mono (by simp[an.num]) ((ab h.2).2 s hs)
 | lock u r rest ab=>
  intro h;refine fin _ λs hs=>?_;rcases JY.1 hs with rfl|hs
  .exact⟨λl he=>gA he,λd aZ=>(by cases aZ;exact h.1),λa bE=>(nomatch bE),by simp[aE.args],c,c,.inr rfl,.inr rfl⟩
  .exact mono (by simp[an.num]) ((ab h.2).2 s hs)
 | ite e th el rest j o ab=>
  intro h;refine fin _ λs hs=>?_;rcases JY.1 hs with rfl|hs
  .exact⟨λl he=>(by cases he;exact h.1),λr aZ=>gA aZ,λa bE=>(nomatch bE),by simp[aE.args],(j h.2.1).1,(o h.2.2.1).1,.inl (by simp[aE.th,an.num];omega),.inl (by simp[aE.el,an.num];omega)⟩
  .exact mono (by simp[an.num];omega) ((ab h.2.2.2).2 s hs)
 | fL e th rest j ab=>
  intro h;refine fin _ λs hs=>?_;rcases JY.1 hs with rfl|hs
  .exact⟨λl he=>(by cases he;exact h.1),λr aZ=>gA aZ,λa bE=>(nomatch bE),by simp[aE.args],(j h.2.1).1,c,.inl (by simp[aE.th,an.num];omega),.inr rfl⟩
  .exact mono (by simp[an.num];omega) ((ab h.2.2).2 s hs)
 | ret rest ab=>
  intro h;refine fin _ λs hs=>?_;rcases JY.1 hs with rfl|hs
  .exact⟨λl he=>gA he,λr aZ=>gA aZ,λa bE=>(nomatch bE),by simp[aE.args],c,c,.inr rfl,.inr rfl⟩
  .exact mono (by simp[an.num]) ((ab h).2 s hs)
end Go.Proofs.YtnigabjngpnbiaaGreat
