/- Part 11 of the proof. No condition of its own. -/
import Derived.Test.YtnigabjngpnbiabGreatF04
import Derived.Test.YtnigabjngpnbiabGreatF06
import Derived.Test.YtnigabjngpnbiabGreatF09
namespace Go.Proofs.YtnigabjngpnbiabGreat
open Go.RowKit Go.Proofs.Tryz
set_option maxRecDepth 1000000
set_option maxHeartbeats 25600000
set_option linter.unusedVariables false
variable{op:Int}{l:List UInt8}{cs:List Value}{B N base g k m n:Nat}{M P:Nat->Prop}{p:Prop}{e t:TypeId}{x y:VE}{ab w:World}{r:eY}
def byteOf(v:Int):UInt8:=UInt8.ofNat v.toNat
theorem iA(W:World)(v:Int):(convert 65 9 (.slice (some ⟨W,0,none⟩) 1 1)).run prog (W.alloc (.cells #[.int .u8 v] 5))=.ok (.string (strOf [byteOf v])) (W.alloc (.cells #[.int .u8 v] 5)):=by
 have:=run_convert_bytes_arg (P:=prog) (W.alloc (.cells #[.int .u8 v] 5)) 65 5 Tryz.underlying65 Tryz.underlying5 W 0 1 1 [v] rfl (λi aN=>by
  have:i=0:=ad;subst this;rw[(an.new W 5 #[.int .u8 v]).cell];rfl) 9 Tryz.underlying9
 rw[this];rfl
theorem aC(l:List UInt8):(strOf l).size=l.length:=by simp[strOf,ByteArray.size]
theorem qd(m:Nat):byteOf (48+((m:Int) % 10))=UInt8.ofNat (48+m % 10):=by
 unfold byteOf;congr 1
theorem ret_str{a b:ByteArray}(h:a=b):Ending.returned a=.returned b:=by rw[h]
theorem ag(a b:List UInt8):strOf a++strOf b=strOf (a++b):=by
 unfold strOf;rw[ByteArray.ext_iff];simp
def jx(N m:Nat)(l:List UInt8):Prop:=jL N=(if m=0 then [] else jL m)++l
theorem r9(N:Nat):jx N (N / 10) [UInt8.ofNat (48+N % 10)]:=by
 unfold jx;rw[jL];split
 .rename_i h;rw[if_pos ad,show N % 10=N by omega];rfl
 .rw[if_neg ad]
theorem EP(h:jx N m l)(hm:0<m):jx N (m / 10) (UInt8.ofNat (48+m % 10)::l):=by
 unfold jx at *;rw[if_neg ad] at h;rw[h];have:=r9 m;unfold jx at this;rw[this];simp
theorem GU(h:jx N m l)(hN:N<=9223372036854775808):l.length<=20:=by
 have:=jM 19 N ad;unfold jx at h;rw[h,M3] at this;omega
theorem qk(N:Nat)(w:World)(hN:N<=9223372036854775808) :
  Calls prog 133 #[.int .u64 N] w λe ab=>e=.returned (.string (strOf (jL N)))/\Below w w ab:=by
 have kc:=iA w;go_enter func133,ntmps133;go_wp2;go_loopw [0,3] (λa sv wr=>∃(m:Nat) (l:List UInt8),a=.int .u64 m/\sv=.string (strOf l)/\m<=N/\jx N m l/\Below w w wr) (λa _ _=>(intOf a).toNat)
 case atStart=>exact⟨N / 10,[byteOf (48+(N:Int) % 10)],by simp,rfl,ad,by rw[qd];exact r9 N,(Below.refl _ _).alloc (MU _) _⟩
 case round=>
  obtain⟨m,l,rfl,rfl,hm,ba,O⟩:=hrel;obtain⟨a3,bL⟩:=aJ ba O;have hl:=GU ba hN;clear ba O kc;have kc:=iA wr;by_cases h0:0<m
  .have q:decide ((m:Int) > 0)=true:=by simp;omega
   have z:decide (m > 0)=true:=by simp;omega
   have aI:(strOf l).size<=20:=by rw[aC];omega
   have aU:(strOf [byteOf (48+(m:Int) % 10)]).size<=1:=by rw[aC];simp
   go_wp2;go_roundw
   case rel=>exact⟨m / 10,byteOf (48+(m:Int) % 10)::l,by simp,by rw[ag];rfl,ad,by rw[qd];exact EP a3.o h0,bL.alloc bL.size _⟩
   case measure=>exact aH
  .have b4:m=0:=ad;have bk:=ae (show jL N=l by have:=a3.o;unfold jx at this;rw[if_pos b4] at this;simpa using this);have q:decide ((m:Int) > 0)=false:=by simp;omega
   clear b4;go_wp2;go_ret;exact⟨ret_str (by rw[bk.o]),bL.o⟩
def l5(n:Int):List UInt8:=aV (h7 n)
theorem Al{n:Int}(h:n<0):l5 n=45::jL n.natAbs:=by unfold l5 h7;rw[if_pos h];simp[aV,Atom.bytes]
theorem wg{n:Int}(h:0<=n):l5 n=jL n.toNat:=by unfold l5 h7;rw[if_neg ad];simp[aV,Atom.bytes]
theorem mC(n:Int)(w:World)(h:-9223372036854775808<=n/\n<=9223372036854775807) :
  Calls prog 110 #[n] w λe ab=>e=.returned (.string (strOf (l5 n)))/\Below w w ab:=by
 by_cases hn:n<0
 .obtain⟨m,rfl⟩:∃m:Nat,n = -((m:Int)+1):=⟨(-(n+1)).toNat,ad⟩
  have hm:m<=9223372036854775807:=ad;have Q:=ae (Al hn);clear hn h;go_enter func110,ntmps110;go_wp2_with(fail);rw[show (-(-((m:Int)+1)+1)+1)=((m+1:Nat):Int) by omega];refine(qk (m+1) w ad).mono ?_;rintro e ab ⟨rfl,O⟩;have bL:=ae O;clear O;have aI:(strOf (jL (m+1))).size<=20:=by rw[aC];exact jM 19 _ ad
  go_wp2;go_ret;exact⟨ret_str (by rw[Q.o,show (-((m:Int)+1)).natAbs=m+1 by omega];exact ag [45] _),bL.o⟩
 .obtain⟨m,rfl⟩:=M6 (show 0<=n by omega);have Q:=ae (wg (n:=(m:Int)) ad);clear hn;go_enter func110,ntmps110;go_wp2_with(fail);refine(qk m w ad).mono ?_;rintro e ab ⟨rfl,O⟩;have bL:=ae O;clear O;go_wp2;go_ret;exact⟨ret_str (by rw[Q.o,Np]),bL.o⟩
def nt:Nat->List (List UInt8×Int)
 | 0=>[([124,124],17)]
 | 1=>[([38,38],16)]
 | 2=>[([61,61],14),([33,61],15),([60],10),([60,61],11),([62],12),([62,61],13)]
 | 3=>[([43],8),([45],9)]
 | _=>[([42],5),([47],6),([37],7)]
def JP(k:Nat):List ByteArray:=(nt k).map λp=>strOf p.1
def oj(k:Nat):List Int:=(nt k).map (·.2)
theorem FZ{cs:Array Value}{l:List Int}(h:an w g t cs)(hc:cs=(l.map (Value.int .i64)).toArray)(hl:l.length=n)(aT:g<B):cp (EF bQ) 1 w B (some ⟨g,0,none⟩) n l:=by
 subst hc;refine⟨hl,λ_=>⟨g,0,rfl,aT,λk x hx=>⟨bQ x,rfl,rfl,λj v bi=>?_⟩⟩⟩;have cO:j=0/\v=.int .i64 x:=by
  cases j with
  | zero=>simp[bQ] at bi;exact⟨rfl,bi.symm⟩
  | succ j=>simp[bQ] at bi
 obtain⟨rfl,rfl⟩:=cO;rw[h.cell];simp[hx]
theorem F0{cs:Array Value}{l:NI}(h:an w g t cs)(hc:cs=(l.map Value.string).toArray)(hl:l.length=n)(aT:g<B):cp (EF o2) 1 w B (some ⟨g,0,none⟩) n l:=by
 subst hc;refine⟨hl,λ_=>⟨g,0,rfl,aT,λk x hx=>⟨o2 x,rfl,rfl,λj v bi=>?_⟩⟩⟩;have cO:j=0/\v=.string x:=by
  exact AR
 obtain⟨rfl,rfl⟩:=cO;rw[h.cell];simp[hx]
def Aw(w:World)(k:Nat)(e:Ending)(ab:World):Prop:=
 ∃A B n,n<=6/\e=.returned (.tuple #[.slice A n n,.slice B n n])/\cp (EF o2) 1 ab ab.heap.size A n (JP k)/\cp (EF bQ) 1 ab ab.heap.size B n (oj k)/\Ext w ab
theorem sP(k:Nat)(aj:k<=4)(w:World):Calls prog 130 #[k] w (Aw w k):=by
 obtain rfl|rfl|rfl|rfl|rfl:k=0\/k=1\/k=2\/k=3\/k=4:=ad
 all_goals
  clear aj;go_enter func130,ntmps130;go_wp2
  go_ret2
  generalize be:World.alloc (World.alloc w _) _=W;refine⟨some ⟨w,0,none⟩,some ⟨w.heap.size+1,0,none⟩,_,by decide,rfl,F0 (t:=9) (cs:=((JP _).map Value.string).toArray) ?_ rfl rfl ?_,FZ (t:=3) (cs:=((oj _).map (Value.int .i64)).toArray) ?_ rfl rfl ?_,?_⟩
  .rw[<-be];exact(ND).alloc _
  .rw[<-be];simp;omega
  .rw[<-be];exact an.gF _ _ _ (by simp)
  .rw[<-be];simp
  .rw[<-be];exact(NC.alloc _).alloc _
theorem GI(aj:k<=4)(h:op∈oj k):c9 op=k:=by
 obtain rfl|rfl|rfl|rfl|rfl:k=0\/k=1\/k=2\/k=3\/k=4:=ad
 all_goals
  simp[oj,nt] at h;unfold c9
  repeat' split
  all_goals omega
theorem EG(h:∀k:Nat,k<5->op∉oj k):c9 op=if op=3\/op=4 then 5 else 6:=by
 have h0:=h 0 ad;have ac:=h 1 ad;have az:=h 2 ad;have aV:=h 3 ad;have aU:=h 4 ad;simp[oj,nt] at h0 ac az aV aU;unfold c9;rw[if_neg ad,if_neg ad,if_neg ad,if_neg ad,if_neg ad]
theorem gK(op:Int)(w:World):Calls prog 142 #[op] w λe ab=>e=.returned (.int .i64 (c9 op))/\Ext w ab:=by
 go_enter func142,ntmps142;go_wp2;go_loopw [3] (λL wr=>∃k:Nat,k<=5/\L=.int .i64 k/\(∀i:Nat,i<k->op∉oj i)/\Ext w wr) (λL _=>6 - (intOf L).toNat)
 case atStart=>exact⟨0,ad,rfl,λi h=>ad,NC⟩
 case round=>
  obtain⟨k,aj,rfl,bY,O⟩:=hrel;obtain⟨bL,b7⟩:=aJ O bY;clear O bY;by_cases ap:k<5
  .have q:decide ((k:Int)<5)=true:=by simp;omega
   go_wp2_with(fail);refine(sP k ad _).mono ?_;rintro e aW ⟨A,B,n,hn,rfl,hs,bD,he⟩;have a2:=ah bD he;clear hs bD he;go_wp2_with(fail)
   go_loop [6] (λb5=>∃j:Nat,j<=n/\b5=.int .i64 j/\∀(i:Nat) (x:Int),i<j->(oj k)[i]?=some x->x≠op) (λb5=>n - (intOf b5).toNat)
   case atStart=>exact⟨0,ad,rfl,λi x h=>ad⟩
   case round=>
    obtain⟨j,bi,rfl,bl⟩:=hrel;have bk:=ae bl;clear bl;by_cases K:j<n
    .obtain⟨b,o,x,rfl,ao,hx,hc⟩:=a2.1.int K;have aP:=ae hx;clear hx;by_cases rH:x=op
     .have q1:(x == op)=true:=by simpa using rH
      have a3:=ae (GI (op:=op) (k:=k) ad (by rw[<-rH];exact M4 aP.o));clear rH;go_wp2;go_ret;exact⟨ret_int a3.symm,bL.trans a2.2⟩
     .have q1:(x == op)=false:=by simpa using rH
      have J:=ae rH;clear rH;go_wp2
      go_round
      case rel=>exact⟨j+1,ad,by go_num,λi y aN bb=>by
       by_cases v:i=j
       .subst v;rw[aP.o] at bb;injection bb with bb;subst bb;exact J.o
       .exact bk.o i y ad bb⟩
      case measure=>exact aH
    .have c:j=n:=ad;have cT:=ae (show op∉oj k from λhm=>by
      obtain⟨i,aN⟩:=List.getElem?_of_mem hm;have ap:=(List.getElem?_eq_some_iff.1 aN).1;have hl:=a2.1.1;exact bk.o i op ad aN rfl)
     have cL:decide ((j:Int)<(n:Int))=false:=by simp;omega
     clear c;go_wp2;go_roundw
     case rel=>exact⟨k+1,ad,by go_num,λi aN=>by
      by_cases bw:i=k
      .subst bw;exact cT.o
      .exact b7.o i ad,bL.trans a2.2⟩
     case measure=>exact aH
  .have aS:k=5:=ad;have a3:=ae (EG (op:=op) (λi aN=>b7.o i ad));subst aS;by_cases aV:op=3\/op=4
   .have S:=ae (a3.trans (if_pos aV));rcases aV with rfl|rfl
    all_goals
     go_wp2;go_ret;exact⟨ret_int S.symm,bL.o⟩
   .have S:=ae (a3.trans (if_neg aV));have de:(op == 3)=false:=by simp;omega
    have dc:(op == 4)=false:=by simp;omega
    clear aV;go_wp2;go_ret;exact⟨ret_int S.symm,bL.o⟩
theorem Hf(x:VE):x.a5=a5 x:=by cases x<;>rfl
theorem sq(op n J:Int)(nm:ByteArray)(b o m c:Nat)(k:Nat)(w:World)(aj:k<=1)(M:k<m)(O:b<w.heap.size)(hc:w.cell? ⟨b,o+k*4,none⟩=some (.int .i64 J)) :
  Calls prog 143 #[.agg #[op,n,nm,.slice (some ⟨b,o,none⟩) m c],k] w λe ab=>e=.returned (.bool (dJ op J (k == 1)))/\Ext w ab:=by
 have cZ:(0:Int)<=(k:Int):=ad;have cw:(k:Int)<(m:Int):=ad;go_enter func143,ntmps143;go_wp2;generalize be:World.alloc _ _=W;have aF:=aX be;obtain⟨a0,ak,af⟩:=(show an W w.heap.size 37 #[op,n,nm,.slice (some ⟨b,o,none⟩) m c] by rw[<-be];exact ND).two;have a7:=(aF.cell (j:=o+k*4) O (λh=>h)).trans hc;have f:b<W:=M0 O aF.size;have bk:=ae aF;clear be aF hc;refine eJ (λ_=>False) [(0,3),(1,0),(2,3),(3,3),(4,3),(5,0),(7,3),(8,0),(6,1),(9,2),(10,3),(11,3)] ?_;refine pf ?_;refine ph ?_
 iterate 3 refine pf ?_
 refine ph ?_;refine pf ?_;refine ph ?_;refine aE rfl (λK hK=>?_);go_simp;refine(gK J _).mono ?_;rintro e aO ⟨rfl,ar⟩;refine dB hK (ar) ?_;clear hK K;have bw:=ae (bk.trans (Fr.aF ar));clear ar;refine au rfl (λK hK=>?_);go_simp;refine(gK op _).mono ?_;rintro e aW ⟨rfl,bF⟩;refine dY hK ?_;clear hK K;have a8:=ae (bw.trans bF);clear bF a0 ak af a7
 iterate 2 refine pf ?_
 refine aG ?_;have bL:=ae (show dJ op J (k == 1)=(decide (c9 J<c9 op) || (c9 J == c9 op && k == 1)) from rfl);generalize c9 J=x at *;generalize c9 op=y at *;by_cases ac:x<y
 .have a3:=ae (show dJ op J (k == 1)=true by rw[bL.o];simp[ac]);clear bL;exact s3
 have q1:decide (x<y)=false:=by simpa using ac
 by_cases az:x=y
 .have cL:(x == y)=true:=by simpa using az
  by_cases aV:k=1
  .have a3:=ae (show dJ op J (k == 1)=true by rw[bL.o];simp[az,aV]);have de:((k:Int) == 1)=true:=by simp;omega
   have a:(k == 1)=true:=by simp;omega
   clear bL ac az aV;exact s3
  .have a3:=ae (show dJ op J (k == 1)=false by rw[bL.o];simp[az,aV]);have de:((k:Int) == 1)=false:=by simp;omega
   have a:(k == 1)=false:=by simp;omega
   clear bL ac az aV;exact s3
 .have cL:(x == y)=false:=by simpa using az
  have a3:=ae (show dJ op J (k == 1)=false by rw[bL.o];simp[ac,az]);clear bL ac az;exact s3
theorem kQ:cq prog 158 9 (.string ⟨#[]⟩) 1 16:=cq.mk' Tryz.underlying158 (by kernel_rfl) rfl ad
def b1(x:VE):List UInt8:=aV (cw x)
def gO(op:Int)(k:Nat)(y:VE):List UInt8:=aV (par (dJ op (a5 y) (k == 1)) (cw y))
def gT:VE->List (List UInt8)
 | .un op x=>[gO op 0 x]
 | .bin op x y=>[gO op 0 x,gO op 1 y]
 | _=>[]
theorem yC(op:Int)(k:Nat)(y:VE):gO op k y=if dJ op (a5 y) (k == 1) then 40::(b1 y++[41]) else b1 y:=by
 unfold gO par b1;split
 .rw[a1,bh];rfl
 .rfl
theorem yD(op:Int)(k:Nat)(y:VE):(b1 y).length<=(gO op k y).length:=by
 rw[yC];split<;>simp
 omega
theorem zf(op:Int)(x:VE):b1 (.un op x)=(if op=3 then 45 else 33)::gO op 0 x:=by
 unfold b1 cw gO;rw[a1];split<;>rfl
theorem vZ(op:Int)(x y:VE):b1 (.bin op x y)=gO op 0 x++32::(hg op++32::gO op 1 y):=by
 unfold b1 cw gO;rw[bh,a1,a1,a1];rfl
theorem kR(x:VE){t:List UInt8}(h:(gT x)[k]?=some t):t.length<=(b1 x).length:=by
 cases x with
 | un op x=>
  rw[zf]
  match k,h with
  | 0,h=>simp[gT] at h;subst h;simp
 | bin op x y=>
  rw[vZ]
  match k,h with
  | 0,h=>simp[gT] at h;subst h;simp
  | 1,h=>simp[gT] at h;subst h;simp;omega
 | num n=>simp[gT] at h
 | gU n=>simp[gT] at h
 | loc n=>simp[gT] at h
 | ij n=>simp[gT] at h
theorem mO(x:VE)(h:x.args[k]?=some y):(gT x)[k]?=some (gO x.a5 k y)/\k<=1:=by
 cases x with
 | un op x=>
  match k,h with
  | 0,h=>simp[VE.args] at h;subst h;simp[gT,VE.a5]
 | bin op x y=>
  match k,h with
  | 0,h=>simp[VE.args] at h;subst h;simp[gT,VE.a5]
  | 1,h=>simp[VE.args] at h;subst h;simp[gT,VE.a5]
 | num n=>simp[VE.args] at h
 | gU n=>simp[VE.args] at h
 | loc n=>simp[VE.args] at h
 | ij n=>simp[VE.args] at h
theorem zs(x:VE):(gT x).length=x.args.length:=by cases x<;>rfl
theorem uD(x:VE):x.args.length<=2:=by cases x<;>simp[VE.args]
theorem rk{N:NI}{d:Nat}(h:x.src N (d+1))(bb:x.args[k]?=some y):y.src N d:=by
 cases x with
 | un op x=>
  match k,bb with
  | 0,bb=>simp[VE.args] at bb;subst bb;exact h.2
 | bin op x y=>
  match k,bb with
  | 0,bb=>simp[VE.args] at bb;subst bb;exact h.2.1
  | 1,bb=>simp[VE.args] at bb;subst bb;exact h.2.2
 | num n=>simp[VE.args] at bb
 | gU n=>simp[VE.args] at bb
 | loc n=>simp[VE.args] at bb
 | ij n=>simp[VE.args] at bb
theorem rl{N:NI}(h:x.src N 0):x.args=[]:=by
 cases x with
 | un op x=>exact h.elim
 | bin op x y=>exact h.elim
 | num n=>rfl
 | gU n=>rfl
 | loc n=>rfl
 | ij n=>rfl
theorem HE{i:Nat}(h:5<=op/\op<=17)(aN:(oj (c9 op).toNat)[i]?=some op):(JP (c9 op).toNat)[i]?=some (strOf (hg op)):=by
 obtain⟨ac,az⟩:=h;obtain rfl|rfl|rfl|rfl|rfl|rfl|rfl|rfl|rfl|rfl|rfl|rfl|rfl:op=5\/op=6\/op=7\/op=8\/op=9\/op=10\/op=11\/op=12\/op=13\/op=14\/op=15\/op=16\/op=17:=ad
 all_goals
  match i,aN with
  | 0,aN=>first|rfl|(exact absurd aN (by decide))
  | 1,aN=>first|rfl|(exact absurd aN (by decide))
  | 2,aN=>first|rfl|(exact absurd aN (by decide))
  | 3,aN=>first|rfl|(exact absurd aN (by decide))
  | 4,aN=>first|rfl|(exact absurd aN (by decide))
  | 5,aN=>first|rfl|(exact absurd aN (by decide))
  | i+6,aN=>simp[oj,nt,c9] at aN
theorem vQ(h:5<=op/\op<=17):∃k:Nat,k<=4/\c9 op=k/\op∈oj k:=by
 obtain⟨ac,az⟩:=h;obtain rfl|rfl|rfl|rfl|rfl|rfl|rfl|rfl|rfl|rfl|rfl|rfl|rfl:op=5\/op=6\/op=7\/op=8\/op=9\/op=10\/op=11\/op=12\/op=13\/op=14\/op=15\/op=16\/op=17:=ad
 all_goals first|exact⟨0,ad,rfl,by decide⟩|exact⟨1,ad,rfl,by decide⟩|exact⟨2,ad,rfl,by decide⟩|exact⟨3,ad,rfl,by decide⟩|exact⟨4,ad,rfl,by decide⟩
def Ay(x:VE):Prop:=∀(op n:Int) (s:ByteArray) (A:NH) (m c:Nat) (w:World),(bo x).rep w (av w) [.int .i64 op,.int .i64 n,.string s,.slice A m c]->(b1 x).length<=262144->
 Calls prog 134 #[.agg #[.int .i64 op,.int .i64 n,.string s,.slice A m c]] w λe ab=>e=.returned (.string (strOf (b1 x)))/\Ext w ab
theorem xW{l:List (List UInt8)}{t:List UInt8}(h:l[k]?=some t):(l.take (k+1)).map (λt=>Value.string (strOf t))=(l.take k).map (λt=>Value.string (strOf t))++[Value.string (strOf t)]:=by
 rw[List.take_add_one,h,Na];rfl
theorem E1(l:NI):l.flatMap o2=l.map Value.string:=by
 induction l with
 | nil=>rfl
 | cons a l aq=>rw[No,aq];rfl
theorem z5{A:NH}{c:Nat}{l:List (List UInt8)}(h:w.ownsRow base e 1 (.slice A n c) n (l.map λt=>Value.string (strOf t)))(hl:l.length=n):cp (EF o2) 1 w w.heap.size A n (l.map strOf):=
 gH (f:=o2) (l:=l.map strOf) (by rw[E1,List.map_map];exact h) (λ_ _=>rfl) (by rw[M5];exact hl)
structure pU(w wr:World)(x:VE)(A:NH)(m c:Nat):Prop where
 ext:Ext w wr
 blk:an wr w.heap.size 37 #[.int .i64 x.a5,.int .i64 x.numOf,.string x.bw,.slice A m c]
 args:Sl wr (av w) A m (x.args.map bo)
theorem pU.on{w wr ab:World}{x:VE}{A:NH}{m c:Nat}(h:pU w wr x A m c)(O:Fr (λb=>w.heap.size<b) wr ab):pU w ab x A m c:=
 ⟨⟨O.os.trans h.ext.os,O.tape.trans h.ext.tape,O.output.trans h.ext.output,Nl h.ext.size O.size,λk aj hn=>(O.block k (M0 aj h.ext.size) ad).trans (h.ext.block k aj hn)⟩,
  h.blk.on O ad,h.args.ak λb ap=>O.block b (M0 ap h.ext.size) (by have:b<w.heap.size:=ap;omega)⟩
theorem Jl{sz:Nat}{v:Value}{xs:List Value}(aB:w.ownsRow base e sz v n xs)(aR:w.grownBy ab v.ownBlock)(O:∀g,base<=g->M g):Fr M w ab:=
 (Fr.refl M w).grown aR λk aj=>.inl (O k (aB.lt k aj).1)
theorem Ext.fr(h:Ext w ab):Fr M w ab:=h.mono λ_ h=>h.elim
namespace CT
theorem pW(h:p:=by
 have aA:m<=2:=by rw[<-hs.1,M5];exact uD x
 have bN:(gT x).length=m:=by rw[zs,<-hs.1,M5]
 obtain⟨bp,bH,cC,aP,F⟩:=Er bN hs aq hx hlen;clear ba hs aq hx hlen bN;go_enter func134,ntmps134;go_wp2;generalize be:World.alloc _ _=W;have hT:pU w W x A m c:=by
  have aF:=aX be;exact⟨aF,by rw[<-be];exact ND,bH.ak λb ap=>aF.block b ap (λh=>h)⟩
 have Q:=ae hT;clear be hT;go_loopw [3,4] (λsv L wr=>∃k:Nat,k<=m/\L=.int .i64 k/\pU w wr x A m c/\wr.ownsRow (w.heap.size+1) 9 1 sv k (((gT x).take k).map λt=>Value.string (strOf t))) (λ_ L _=>m - (intOf L).toNat)
 case atStart=>exact⟨0,ad,rfl,Q.o,by simp,.inl ⟨rfl,rfl⟩⟩
 case round=>
  obtain⟨k,aj,rfl,hT,aB⟩:=hrel;clear Q;obtain⟨bI,bx,rfl,d3,_,_,_⟩:=bG aB;obtain⟨Q,a2⟩:=aJ hT aB;obtain⟨a0,ak,af⟩:=hT.blk.two;clear hT aB;by_cases ap:k<m
  .obtain⟨b,o,y,cs,rfl,O,bb,aa,bu,Z⟩:=Q.args.g1 c7 ap
   match cs,bu with
   | [ci,cr,cf,bv],_=>
   have c0:=Z 0 ci rfl;have c1:=Z 1 cr rfl;have c2:=Z 2 cf rfl;have c3:=Z 3 bv rfl;simp only[Nd] at c0;have aZ:b<wr.heap.size:=M0 O Q.ext.size;clear Z O;obtain⟨B,bO,bc,e,c6,b3⟩:=aY.1 aa;simp only[List.cons.injEq,and_true] at e;obtain⟨rfl,rfl,rfl,rfl⟩:=e;have bB:=ae bb;have G:=ae (D.aM (cU:=av wr) (λb ap=>M0 ap Q.ext.size) _ _ aa);clear bb aa b3;go_wp2_with(fail);refine(cC.o k y bB.o _ _ _ _ _ _ wr G.o ?_).mono ?_
   .exact Nl (yD x.a5 k y) (Nl (kR x (mO x bB.o).1) F.o)
   rintro e aO ⟨rfl,ar⟩;have ce:=(mO x bB.o).2;have ab:=ae (Q.on ar.fr);have d0:=(ar.cell (j:=o+k*4) aZ (λh=>h)).trans c0;have b2:b<aO:=M0 aZ ar.size;have X:=ae (bV a2.o (Fr.ext ar));clear Q a2 a0 ak af c0 c1 c2 c3 ar aZ;obtain⟨a0,ak,af⟩:=ab.blk.two;go_wp2_with(fail);refine(sq x.a5 x.numOf y.a5 x.bw b o m c k aO ce ap b2 d0).mono ?_;rintro e aW ⟨rfl,bF⟩;have l:=ae (ab.on bF.fr);have a6:=ae (bV X.o (Fr.ext bF));clear ab X a0 ak af d0 b2 bF;obtain⟨a0,ak,af⟩:=l.blk.two;have HA:=ae (yC x.a5 k y);have P:=ae (mO x bB.o).1;have aI:(strOf (b1 y)).size<=262144:=by
    rw[aC];exact Nl (yD x.a5 k y) (Nl (kR x (mO x bB.o).1) F.o)
   rw[<-Hf] at *;have b3:w+1<=aW.heap.size:=l.blk.lt;by_cases aN:dJ x.a5 y.a5 (k == 1)=true
   .rw[aN];have aS:=ae (show (⟨#[40]⟩:ByteArray)++strOf (b1 y)++⟨#[41]⟩=strOf (gO x.a5 k y) by
     rw[HA.o,if_pos aN,show (⟨#[40]⟩:ByteArray)=strOf [40] from rfl,show (⟨#[41]⟩:ByteArray)=strOf [41] from rfl,ag,ag];simp)
    clear aN HA;exact Ie
   .have r:dJ x.a5 y.a5 (k == 1)=false:=by simpa using aN
    rw[r];have aS:=ae (show strOf (b1 y)=strOf (gO x.a5 k y) by rw[HA.o,if_neg aN]);clear aN r HA;exact Ie
  .have M:k=m:=ad;subst M;have a3:=ae (z5 (by
    have:=a2.o;rw[<-bp.o,List.take_length] at this;rw[<-bp.o];exact this) bp.o)
   have bk:=ae Q.ext;clear a2 cC;have hi:decide ((k:Int)<(k:Int))=false:=by simp
   cases x with
   | num n=>
    have hn:0<=n/\n<4611686018427387904:=by have:=aP.o;cases d<;>exact this
    have b7:=ae (show l5 n=b1 (.num n) by rw[wg hn.1];simp[b1,cw,aV,Atom.bytes]);have O:=mC n wr ad;simp only[VE.a5,VE.numOf,VE.bw] at *;clear hi;go_wp2_with(fail);refine O.mono ?_;rintro e aO ⟨rfl,ar⟩;have bw:=ae (bk.trans (Fr.of ar));clear ar O;go_wp2;go_ret
    exact⟨ret_str (by rw[b7.o]),bw.o⟩
   | gU s=>
    simp only[VE.a5,VE.numOf,VE.bw] at *;have b7:=ae (show s=strOf (b1 (.gU s)) by simp[b1,cw,aV,Atom.bytes,strOf]);go_wp2;go_ret
    exact⟨ret_str b7.o,bk.o⟩
   | loc j=>exact(by have:=aP.o;cases d<;>exact this:False).elim
   | ij j=>exact(by have:=aP.o;cases d<;>exact this:False).elim
   | un op y=>
    obtain rfl:k=1:=bp.symm;obtain⟨b,o,z,rfl,O,aI,hc⟩:=a3.str (k:=0) ad;have S:strOf (gO op 0 y)=z:=by simpa[gT] using aI
    subst S;have U:(strOf (gO op 0 y)).size<=262144:=by
     rw[aC];exact Nl (kR (.un op y) (k:=0) rfl) F.o
    have cp:op=3\/op=4:=by
     cases d with
     | zero=>exact aP.elim
     | succ d=>exact aP.1
    have l:=ae (zf op y);simp only[Nd] at hc;clear aI aP Q F bp aA bR hi af d3;rcases cp with rfl|rfl
    .have b7:=ae (show (⟨#[45]⟩:ByteArray)++strOf (gO 3 0 y)=strOf (b1 (.un 3 y)) by rw[l.o,if_pos rfl];exact ag [45] _);clear l;generalize gO 3 0 y=t at *;exact AT
    .have b7:=ae (show (⟨#[33]⟩:ByteArray)++strOf (gO 4 0 y)=strOf (b1 (.un 4 y)) by rw[l.o,if_neg ad];exact ag [33] _);clear l;generalize gO 4 0 y=t at *
     exact AT
   | bin op y z=>
    obtain rfl:k=2:=bp.symm;obtain⟨b,o,bh,rfl,O,bJ,u⟩:=a3.str (k:=0) ad;obtain⟨ct,da,cj,e,_,aU,c4⟩:=a3.str (k:=1) ad;simp only[Nw,Addr.mk.injEq,and_true] at e;obtain⟨rfl,rfl⟩:=e;have S:strOf (gO op 0 y)=bh:=by simpa[gT] using bJ
    have Y:strOf (gO op 1 z)=cj:=by simpa[gT] using aU
    subst S Y;have ax:(strOf (gO op 0 y)).size<=262144:=by
     rw[aC];exact Nl (kR (.bin op y z) (k:=0) rfl) F.o
    have hq:(strOf (gO op 1 z)).size<=262144:=by
     rw[aC];exact Nl (kR (.bin op y z) (k:=1) rfl) F.o
    have cp:5<=op/\op<=17:=by
     cases d with
     | zero=>exact aP.elim
     | succ d=>exact aP.1
    have b7:=ae (show ((strOf (gO op 0 y)++⟨#[32]⟩)++strOf (hg op))++⟨#[32]⟩++strOf (gO op 1 z)=strOf (b1 (.bin op y z)) by
     rw[vZ,show (⟨#[32]⟩:ByteArray)=strOf [32] from rfl,ag,ag,ag,ag];simp)
    have bS:(strOf (hg op)).size<=2:=by
     rw[aC];unfold hg
     repeat' split
     all_goals simp
    have o1:(op == 1)=false:=by simp;omega
    have gv:(op == 2)=false:=by simp;omega
    have o3:(op == 3)=false:=by simp;omega
    have o4:(op == 4)=false:=by simp;omega
    obtain⟨gS,cJ,bg,bU⟩:=vQ cp;have al:=ae (λ(i:Nat)=>HE (i:=i) cp);obtain⟨V,cH⟩:=aJ bU bg;simp only[Nd] at u;clear bJ aU aP F bp aA bR hi af d3 a3 bU cp;generalize strOf (gO op 0 y)=t0 at *;generalize strOf (gO op 1 z)=t1 at *;generalize strOf (hg op)=sg at *;simp only[VE.a5,VE.numOf,VE.bw] at *;go_wp2_with(fail);refine(gK op wr).mono ?_;rintro e aO ⟨rfl,ar⟩;rw[bg];go_wp2_with(fail);refine(sP gS cJ aO).mono ?_;rintro e aW ⟨bI,ac,n,hn,rfl,hs,bD,bF⟩;have q:=ar.trans bF;have a8:=ae (bk.trans q);have e0:=(q.cell (j:=o) O (λh=>h)).trans u;have e1:=(q.cell (j:=o+1) O (λh=>h)).trans c4;have bn:b<aW:=M0 O q.size;have l:=ae (Q.on (Ext.fr q));obtain⟨bs,am,aK⟩:=l.blk.two;simp only[VE.a5,VE.numOf,VE.bw] at bs;have a2:=ah hs bD;clear hs bD ar bF q u c4 O a0 ak Q bk bg;go_wp2_with(fail);go_loopw [8] (λb5 wr=>∃j:Nat,j<=n/\b5=.int .i64 j/\(∀(i:Nat) (x:Int),i<j->(oj gS)[i]?=some x->x≠op)/\Ext aW wr) (λb5 _=>n - (intOf b5).toNat)
    case atStart=>exact⟨0,ad,rfl,λi x h=>ad,NC⟩
    case round=>
     obtain⟨j,bi,rfl,bl,bZ⟩:=hrel;obtain⟨bE,a4⟩:=aJ bl bZ;obtain⟨v0,a1⟩:=Fr.uk bZ;clear bl bZ;by_cases K:j<n
     .obtain⟨c1,ay,x,rfl,R,hx,ao⟩:=a2.2.int K;obtain⟨c2,az,gI,rfl,aw,de,T⟩:=a2.1.str K;have aP:=ae hx;by_cases rH:x=op
      .subst rH;have H:=al.o j (by rw[cH.o];exact hx);rw[cH.o,Np,de] at H;injection H with H;subst H;clear hx de;go_wp2;go_quiet (fail)
       go_wp2;go_quiet (fail)
       go_wp2;go_ret;exact⟨ret_str b7.o,a8.trans ((a4.drewN _).drewN _)⟩
      .have q1:(x == op)=false:=by simpa using rH
       have J:=ae rH;clear rH hx de;go_wp2;go_quiet (fail)
       go_wp2
       go_round
       case rel=>refine⟨j+1,ad,by go_num,λi y aN bb=>?_,?_⟩;rotate_left;exact a4.drewN _;exact(by
        by_cases v:i=j
        .subst v;rw[aP.o] at bb;injection bb with bb;subst bb;exact J.o
        .exact bE.o i y ad bb)
       case measure=>exact aH
     .exfalso;obtain⟨i,aN⟩:=List.getElem?_of_mem V.o;have ap:=(List.getElem?_eq_some_iff.1 aN).1;have hl:=a2.2.1;exact bE.o i op ad aN rfl
 ):p:=h
end CT
open CT in
theorem sS(N:NI)(d:Nat)(x:VE)(hx:x.src N d)(aq:∀(k:Nat) (y:VE),x.args[k]?=some y->Ay y):Ay x:=by
 intro op n s A m c w ba hlen;exact pV
theorem j3(N:NI):∀(d:Nat) (x:VE),x.src N d->Ay x
 | 0,x,h=>sS N 0 x h λk y bb=>by rw[rl h] at bb;simp at bb
 | d+1,x,h=>sS N (d+1) x h λk y bb=>j3 N d y (rk h bb)
def gq(r:eY):List UInt8:=aV (iM r)
theorem xX(h:r.idx=none):gq r=r.name.data.toList:=by
 unfold gq iM;rw[h];simp[aV,Atom.bytes]
theorem xY{e:VE}(h:r.idx=some e):gq r=r.name.data.toList++91::(b1 e++[93]):=by
 unfold gq iM b1;rw[h];simp[aV,Atom.bytes]
theorem jQ:(kW r).rep w P cs↔∃A n c,cs=[.string r.name,.slice A n c]/\n<=c/\Sl w P A n (r.idx.toList.map bo):=by
 unfold kW;rw[bK,cx];constructor
 .rintro⟨y,rfl,h⟩;obtain⟨A,n,c,bv,rfl,hc,hs,aV⟩:=aN.1 h;exact yv
 .rintro⟨A,n,c,rfl,hc,hs⟩;exact wx
def F4(r:eY):Prop:=∀e,r.idx=some e->∃N d,e.src N d
theorem dk(s:ByteArray):strOf s.data.toList=s:=by simp[strOf]
namespace CU
theorem Bg(h:p:=by
 refine pf ?_;refine aG ?_;go_wp2;go_ret;exact⟨ret_str b7.o,bk.trans (Fr.aF ar)⟩
 ):p:=h
end CU
open CU in
theorem k4(r:eY)(aw:F4 r)(s:ByteArray)(A:NH)(n c:Nat)(w:World)(ba:(kW r).rep w (av w) [s,.slice A n c])(hlen:(gq r).length<=262144) :
  Calls prog 136 #[.agg #[s,.slice A n c]] w λe ab=>e=.returned (.string (strOf (gq r)))/\Ext w ab:=by
 obtain⟨I,a6,aD,e,aQ,hs⟩:=jQ.1 ba;simp only[List.cons.injEq,Value.string.injEq,Value.slice.injEq,and_true] at e;obtain⟨rfl,rfl,rfl,rfl⟩:=e
 cases aN:r.idx with
 | none=>
  rw[aN] at hs;obtain rfl:n=0:=hs.1.symm;have b7:=ae (show r.name=strOf (gq r) by rw[xX aN,dk]);clear aN hs ba hlen aw;go_enter func136,ntmps136;go_wp2;go_ret
  exact⟨ret_str b7.o,NC.alloc _⟩
 | some x=>
  rw[aN] at hs;obtain rfl:n=1:=hs.1.symm;obtain⟨N,d,hx⟩:=aw x aN;obtain⟨b,o,b0,Z,a9,H,rfl,O,aB,c0,c1,c2,c3⟩:=Sl.Fv hs (c7 x);obtain⟨B,bO,bc,e,c6,b3⟩:=aY.1 aB;simp only[List.cons.injEq,and_true] at e;obtain⟨rfl,rfl,rfl,rfl⟩:=e;have aZ:b<w:=O;have Q:=ae (xY aN);have bJ:r.name.size<=262144:=by
   have:=hlen;rw[Q.o,M3] at this;have az:r.name.size=r.name.data.toList.length:=rfl;omega
  have aU:(b1 x).length<=262144:=by
   have:=hlen;rw[Q.o,M3] at this;simp at this;omega
  have b7:=ae (show r.name++⟨#[91]⟩++strOf (b1 x)++⟨#[93]⟩=strOf (gq r) by
   rw[Q.o,show (⟨#[91]⟩:ByteArray)=strOf [91] from rfl,show (⟨#[93]⟩:ByteArray)=strOf [93] from rfl];conv=>lhs;rw[<-dk r.name]
   rw[ag,ag,ag];simp)
  have bj:=ae aU;have b8:(strOf (b1 x)).size<=262144:=by rw[aC];exact aU
  have aP:=ae (j3 N d x hx);have G:=ae aB;clear aN hs ba hlen aw Q aB b3 O aU hx;go_enter func136,ntmps136;go_wp2;generalize be:World.alloc _ _=W;have aF:=aX be;obtain⟨a0,ak,af⟩:=(show an W w.heap.size 172 #[.string r.name,.slice (some ⟨b,o,none⟩) 1 c] by rw[<-be];exact ND).two;have d0:=(aF.cell (j:=o) aZ (λh=>h)).trans c0;have d1:=(aF.cell (j:=o+1) aZ (λh=>h)).trans c1;have d2:=(aF.cell (j:=o+2) aZ (λh=>h)).trans c2;have d3:=(aF.cell (j:=o+3) aZ (λh=>h)).trans c3;have f:b<W:=M0 aZ aF.size;have bk:=ae aF;clear be aF c0 c1 c2 c3 aZ;refine eJ (λ_=>False) [(0,3),(1,0),(2,3),(3,3),(4,0),(5,3),(6,0),(7,1),(8,3),(9,3),(10,3)] ?_;refine pf ?_;refine ph ?_;refine bt (v:=?_) rfl (by rfl) (λV=>?_) ?_;rotate_left
  .go_simp;exact et
  try simp only[PU]
  refine pf ?_;refine ph ?_;refine pf ?_;refine ph ?_;refine aE rfl (λK hK=>?_);go_simp;refine(aP.o _ _ _ _ _ _ _ (D.on G.o (Fr.ext bk.drew)) bj.o).mono ?_;exact Bf
def oS(a:dq):List UInt8:=aV (fR a)
def jy(l:List dq):List UInt8:=40::aV (ei (l.map fR))
def ib(l:List dq):List UInt8:=aV (jm l)
theorem sR(l:List dq):ib l=jy l++[41]:=by
 unfold ib jm jy;rw[a1,bh];rfl
theorem my:∀(l:List (List Atom)) (a:List Atom),ei (l++[a])=if l=[] then a else ei l++(.sg [44]::.ws 32::a)
 | [],a=>rfl
 | [b],a=>by simp[ei]
 | b::d::l,a=>by
  have aq:=my (d::l) a;rw[if_neg (by simp)] at aq;rw[if_neg (by simp)];show ei (b::d::(l++[a]))=_
  simp only[ei];rw[Nj] at aq;rw[aq];simp
theorem r2{aY:List dq}{a:dq}(h:aY[k]?=some a):jy (aY.take (k+1))=jy (aY.take k)++((if 0<k then [44,32] else [])++oS a):=by
 have aj:k<aY.length:=(List.getElem?_eq_some_iff.1 h).1;unfold jy oS;rw[List.take_add_one,h,Na];show (40:UInt8)::aV (ei (List.map fR (List.take k aY)++[fR a]))=_
 rw[my];by_cases h0:0<k
 .rw[if_neg (by intro e;have:=congrArg List.length e;simp only[M5,List.length_take,Nn] at this;omega),if_pos h0,bh,a1,a1];simp[Atom.bytes]
 .obtain rfl:k=0:=ad;simp[ei,aV]
theorem zp(aY:List dq)(k:Nat):(jy (aY.take k)).length<=(jy (aY.take (k+1))).length:=by
 cases h:aY[k]? with
 | none=>rw[Nb (i:=k+1) (by have:=List.getElem?_eq_none_iff.1 h;omega),Nb (List.getElem?_eq_none_iff.1 h)];exact MU _
 | some a=>rw[r2 h];simp
theorem yx(aY:List dq):∀j k:Nat,(jy (aY.take k)).length<=(jy (aY.take (k+j))).length
 | 0,k=>MU _
 | j+1,k=>Nl (yx aY j k) (zp aY (k+j))
theorem uC(aY:List dq)(aj:k<=aY.length):(jy (aY.take k)).length<=(ib aY).length:=by
 have:=yx aY (aY.length - k) k;rw[show k+(aY.length - k)=aY.length by omega,List.take_length] at this;rw[sR];simp;omega
def HF:dq->Prop
 | .mx r=>F4 r
 | .ex e=>∃N d,e.src N d
theorem tx(a:dq):(eP a).sz=7:=by
 cases a with
 | mx r=>rfl
 | ex e=>show D.Af [.b false,gv,bo e]=7;simp only[D.Af,c7,D.sz,gv]
theorem dL{d:D}{l:List D}:D.aQ w P (d::l) cs↔∃x y,cs=x++y/\d.rep w P x/\D.aQ w P l y:=by simp only[D.aQ]
theorem GX(h:(eP (.mx r)).rep w P cs):∃s A n c e0 e1 e2 e3,cs=[.bool true,.string s,.slice A n c,e0,e1,e2,e3]/\(kW r).rep w P [.string s,.slice A n c]:=by
 unfold eP at h;rw[bK,fE] at h;obtain⟨y,rfl,h⟩:=h;obtain⟨x,cf,rfl,hx,bb⟩:=dL.1 h;obtain⟨A,n,c,rfl,hc,hs⟩:=jQ.1 hx;rw[D.bx] at bb;obtain⟨A2,c2,rfl⟩:=fy.1 bb;exact⟨_,A,n,c,_,_,_,_,rfl,hx⟩
namespace CV
theorem wM(h:p:=by
 obtain⟨A,n,c,cB,rfl,_,_,aI⟩:=aN.1 hx;rw[aR] at aI;subst aI;exact AK
 ):p:=h
end CV
open CV in
theorem GW{e:VE}(h:(eP (.ex e)).rep w P cs):∃bq r1 op n s A m c,cs=[.bool false,bq,r1,.int .i64 op,.int .i64 n,.string s,.slice A m c]/\(bo e).rep w P [.int .i64 op,.int .i64 n,.string s,.slice A m c]:=by
 exact wL
theorem tm(aY:List dq)(aw:∀a∈aY,HF a)(A:NH)(n c:Nat)(w:World)(hs:Sl w (av w) A n (aY.map eP))(hlen:(ib aY).length<=262144)(hn:n<=1000) :
  Calls prog 135 #[.slice A n c] w λe ab=>e=.returned (.string (strOf (ib aY)))/\Ext w ab:=by
 have hl:aY.length=n:=by rw[<-hs.1,M5]
 obtain⟨bT,bH,bI,F⟩:=jl hl hs aw hlen;clear hs aw hlen hl;go_enter func135,ntmps135;go_wp2;go_loopw [3,4] (λsv L wr=>∃k:Nat,k<=n/\L=.int .i64 k/\sv=.string (strOf (jy (aY.take k)))/\Ext w wr) (λ_ L _=>n - (intOf L).toNat)
 case atStart=>exact⟨0,ad,rfl,rfl,NC⟩
 case round=>
  obtain⟨k,aj,rfl,rfl,aF⟩:=hrel;have bk:=ae aF;clear aF;have aI:(strOf (jy (aY.take k))).size<=262144:=by
   rw[aC];exact Nl (uC aY (by rw[bT.o];exact aj)) F.o
  by_cases ap:k<n
  .obtain⟨b,o,a,cs,rfl,O,bg,S,bu,Z⟩:=(bH.on (Fr.ext bk.o)).g1 tx ap;have aZ:b<wr:=O;have HA:=ae bg;have i:=ae (r2 bg);have bY:=ae (bI.o a (M4 bg));have cC:(oS a).length<=262144:=by
    have ac:=uC aY (k:=k+1) (by rw[bT.o];exact ap);rw[i.o] at ac;have az:=F.o;simp at ac;omega
   have f:=ae cC;have b8:(strOf (oS a)).size<=262144:=by rw[aC];exact cC
   clear bg cC O
   cases a with
   | mx r=>
    obtain⟨s,cr,cI,rc,e0,e1,e2,e3,rfl,ah⟩:=GX S;have c0:=Z 0 _ rfl;have c1:=Z 1 _ rfl;have c2:=Z 2 _ rfl;simp only[Nd] at c0;have bA:=ae ah;clear Z S ah;have l:=ae (show oS (.mx r)=[109,117,116,101,120,32]++gq r by
     unfold oS fR gq;rw[a1,a1];simp[kw,gh,Atom.bytes])
    have t:(gq r).length<=262144:=by
     have:=f.o;rw[l.o] at this;simp at this;omega
    have j:=ae t;have z:(strOf (gq r)).size<=262144:=by rw[aC];exact t
    clear t;by_cases h0:0<k
    ·
     have q:decide ((k:Int) > 0)=true:=by simp;omega
     have aS:=ae (show strOf (jy (aY.take k))++⟨#[44,32]⟩++⟨#[109,117,116,101,120,32]⟩++strOf (gq r)=strOf (jy (aY.take (k+1))) by
      rw[i.o,if_pos h0,l.o,show (⟨#[44,32]⟩:ByteArray)=strOf [44,32] from rfl,show (⟨#[109,117,116,101,120,32]⟩:ByteArray)=strOf [109,117,116,101,120,32] from rfl,ag,ag,ag]
      try simp)
     go_wp2_with(fail);refine(k4 r bY.o s cr cI rc wr bA.o j.o).mono ?_;rintro e aO ⟨rfl,ar⟩;have bw:=ae (bk.trans ar);clear ar c0 c1 c2 bk;exact yo
    ·
     have q:decide ((k:Int) > 0)=false:=by simp;omega
     have aS:=ae (show strOf (jy (aY.take k))++⟨#[109,117,116,101,120,32]⟩++strOf (gq r)=strOf (jy (aY.take (k+1))) by
      rw[i.o,if_neg h0,l.o,show (⟨#[109,117,116,101,120,32]⟩:ByteArray)=strOf [109,117,116,101,120,32] from rfl,ag,ag]
      try simp)
     go_wp2_with(fail);refine(k4 r bY.o s cr cI rc wr bA.o j.o).mono ?_;rintro e aO ⟨rfl,ar⟩;have bw:=ae (bk.trans ar);clear ar c0 c1 c2 bk
     exact yo
   | ex x=>
    obtain⟨bq,r1,op,aU,s,EA,em,ec,rfl,g⟩:=GW S;have c0:=Z 0 _ rfl;have c1:=Z 3 _ rfl;have c2:=Z 4 _ rfl;have c3:=Z 5 _ rfl;have bs:=Z 6 _ rfl;simp only[Nd] at c0;have m:=ae g;have z:(strOf (b1 x)).size<=262144:=b8;obtain⟨N,d,hx⟩:=bY.o;have aP:=ae (j3 N d x hx);clear Z S g hx bY;by_cases h0:0<k
    ·
     have q:decide ((k:Int) > 0)=true:=by simp;omega
     have aS:=ae (show strOf (jy (aY.take k))++⟨#[44,32]⟩++strOf (b1 x)=strOf (jy (aY.take (k+1))) by
      rw[i.o,show oS (.ex x)=b1 x from rfl,if_pos h0,show (⟨#[44,32]⟩:ByteArray)=strOf [44,32] from rfl,ag,ag]
      try simp)
     go_wp2_with(fail);refine(aP.o op aU s EA em ec wr m.o f.o).mono ?_;rintro e aO ⟨rfl,ar⟩;have bw:=ae (bk.trans ar);clear ar c0 c1 c2 c3 bs bk;exact yo
    ·
     have q:decide ((k:Int) > 0)=false:=by simp;omega
     have aS:=ae (show strOf (jy (aY.take k))++strOf (b1 x)=strOf (jy (aY.take (k+1))) by
      rw[i.o,show oS (.ex x)=b1 x from rfl,if_neg h0,ag]
      try simp)
     go_wp2_with(fail);refine(aP.o op aU s EA em ec wr m.o f.o).mono ?_;rintro e aO ⟨rfl,ar⟩;have bw:=ae (bk.trans ar);clear ar c0 c1 c2 c3 bs bk;exact yo
  .obtain rfl:k=n:=ad;have aS:=ae (show strOf (jy (aY.take k))++⟨#[41]⟩=strOf (ib aY) by
    rw[sR,<-bT.o,List.take_length,<-ag];rfl)
   go_wp2;go_ret;exact⟨ret_str aS.o,bk.o⟩
inductive aB where
 | set (v:Bool) (n:ByteArray) (e:VE)
 | call (g:Bool) (n:ByteArray) (aY:List dq)
 | lock (u:Bool) (r:eY)
 | ite (e:VE) (th el:al)
 | gM (e:VE) (th:al)
 | ret
def al.list:al->List aB
 | .nil=>[]
 | .set v n e rest=>.set v n e::rest.list
 | .call g n aY rest=>.call g n aY::rest.list
 | .lock u r rest=>.lock u r::rest.list
 | .ite e th el rest=>.ite e th el::rest.list
 | .gM e th rest=>.gM e th::rest.list
 | .ret rest=>.ret::rest.list
def bk:aB->D
 | .set v n e=>gW (if v then 1 else 2) n (bo e) gv [] [] []
 | .call g n aY=>gW (if g then 4 else 3) n j7 gv (aY.map eP) [] []
 | .lock u r=>gW (if u then 6 else 5) ⟨#[]⟩ j7 (kW r) [] [] []
 | .ite e th el=>gW 7 ⟨#[]⟩ (bo e) gv [] (dc th) (dc el)
 | .gM e th=>gW 8 ⟨#[]⟩ (bo e) gv [] (dc th) []
 | .ret=>gW 9 ⟨#[]⟩ j7 gv [] [] []
theorem cM:∀b:al,dc b=b.list.map bk
 | .nil=>rfl
 | .set v n e rest=>by simp only[dc,al.list,M7,bk,cM rest]
 | .call g n aY rest=>by simp only[dc,al.list,M7,bk,cM rest]
 | .lock u r rest=>by simp only[dc,al.list,M7,bk,cM rest]
 | .ite e th el rest=>by simp only[dc,al.list,M7,bk,cM rest]
 | .gM e th rest=>by simp only[dc,al.list,M7,bk,cM rest]
 | .ret rest=>by simp only[dc,al.list,M7,bk,cM rest]
def dD(t:Nat):aB->List UInt8
 | .set v n e=>List.replicate t 9++((if v then [118,97,114,32] else [])++(n.data.toList++([32,61,32]++(b1 e++[59,10]))))
 | .call g n aY=>List.replicate t 9++((if g then [103,111,32] else [])++(n.data.toList++(ib aY++[59,10])))
 | .lock u r=>List.replicate t 9++((if u then [117,110,108,111,99,107,32] else [108,111,99,107,32])++(gq r++[59,10]))
 | .ite e th el=>List.replicate t 9++([105,102,32]++(b1 e++([32,123,10]++(aV (aW (t+1) th)++(List.replicate t 9++([125] ++
   ((if el.isNil then [] else [32,101,108,115,101,32,123,10]++(aV (aW (t+1) el)++(List.replicate t 9++[125])))++[10])))))))
 | .gM e th=>List.replicate t 9++([119,104,105,108,101,32]++(b1 e++([32,123,10]++(aV (aW (t+1) th)++(List.replicate t 9++[125,10])))))
 | .ret=>List.replicate t 9++[114,101,116,117,114,110,59,10]
def cJ(t:Nat)(b:al):List UInt8:=aV (aW t b)
theorem fU(t:Nat):aV (fK t)=List.replicate t 9:=by
 induction t with
 | zero=>rfl
 | succ t aq=>unfold fK at *;rw[List.replicate_succ,a1,aq];rfl
theorem r6:aV []=[]:=rfl
theorem ff(t:Nat):∀b:al,cJ t b=(b.list.map (dD t)).flatten
 | .nil=>rfl
 | .set v n e rest=>by
  have aq:=ff t rest;unfold cJ at *;simp only[aW,al.list,M7,List.flatten_cons,<-aq,dD,bh,a1,fU,b1]
  cases v<;>simp[Atom.bytes,kw,aV]
 | .call g n aY rest=>by
  have aq:=ff t rest;unfold cJ at *;simp only[aW,al.list,M7,List.flatten_cons,<-aq,dD,bh,a1,fU,ib]
  cases g<;>simp[Atom.bytes,kw,aV]
 | .lock u r rest=>by
  have aq:=ff t rest;unfold cJ at *;simp only[aW,al.list,M7,List.flatten_cons,<-aq,dD,bh,a1,fU,gq]
  cases u<;>simp[Atom.bytes,kw,aV]
 | .ite e th el rest=>by
  have aq:=ff t rest;unfold cJ at *;simp only[aW,al.list,M7,List.flatten_cons,<-aq,dD,bh,a1,fU,b1];cases hn:el.isNil
  .simp only[Nz,if_false,bh,a1,fU];simp[Atom.bytes,kw,r6]
  .simp only[if_true]
   simp[Atom.bytes,kw,r6]
 | .gM e th rest=>by
  have aq:=ff t rest;unfold cJ at *;simp only[aW,al.list,M7,List.flatten_cons,<-aq,dD,bh,a1,fU,b1]
  simp[Atom.bytes,kw]
 | .ret rest=>by
  have aq:=ff t rest;unfold cJ at *;simp only[aW,al.list,M7,List.flatten_cons,<-aq,dD,bh,a1,fU];simp[Atom.bytes,kw]
def aB.kind:aB->Int
 | .set v _ _=>if v then 1 else 2
 | .call g _ _=>if g then 4 else 3
 | .lock u _=>if u then 6 else 5
 | .ite ..=>7
 | .gM ..=>8
 | .ret=>9
def aB.name:aB->ByteArray
 | .set _ n _=>n
 | .call _ n _=>n
 | _=>⟨#[]⟩
def aB.expr:aB->Option VE
 | .set _ _ e=>some e
 | .ite e _ _=>some e
 | .gM e _=>some e
 | _=>none
def aB.ref:aB->Option eY
 | .lock _ r=>some r
 | _=>none
def aB.args:aB->List dq
 | .call _ _ aY=>aY
 | _=>[]
def aB.th:aB->al
 | .ite _ th _=>th
 | .gM _ th=>th
 | _=>.nil
def aB.el:aB->al
 | .ite _ _ el=>el
 | _=>.nil
def qp:Option eY->D
 | none=>gv
 | some r=>kW r
theorem se(s:aB):bk s=gW s.kind s.name (o9 s.expr) (qp s.ref) (s.args.map eP) (dc s.th) (dc s.el):=by
 cases s<;>rfl
theorem nR(s:aB):(bk s).sz=11:=by
 rw[se];have ac:(o9 s.expr).sz=4:=by
  cases s.expr with
  | none=>rfl
  | some x=>exact c7 x
 have az:(qp s.ref).sz=2:=by cases s.ref<;>rfl
 unfold gW;simp only[D.sz,D.Af,ac,az]
theorem qq{x:Option VE}(h:(o9 x).rep w P cs):∃o n s A m c,cs=[.int .i64 o,.int .i64 n,.string s,.slice A m c]:=by
 cases x with
 | none=>obtain⟨A,c,rfl⟩:=fy.1 h;exact⟨_,_,_,_,_,_,rfl⟩
 | some x=>obtain⟨A,n,c,rfl,_⟩:=aY.1 h;exact⟨_,_,_,_,_,_,rfl⟩
theorem uO{x:Option eY}(h:(qp x).rep w P cs):∃s A m c,cs=[.string s,.slice A m c]:=by
 cases x with
 | none=>
  unfold qp gv at h;rw[bK,cx] at h;obtain⟨z,rfl,hx⟩:=h;obtain⟨A,n,c,cB,rfl,_,_,aI⟩:=aN.1 hx;rw[aR] at aI;subst aI
  exact⟨_,_,_,_,rfl⟩
 | some x=>obtain⟨A,n,c,rfl,_⟩:=jQ.1 h;exact⟨_,_,_,_,rfl⟩
structure Kl(w:World)(P:Nat->Prop)(s:aB)(eo en:Int)(es:ByteArray)(EA:NH)(em ec:Nat)(rs:ByteArray)(cr:NH)(b5 rc:Nat)(cR:NH)(n1:Nat)(A2:NH)(n2:Nat)(cu:NH)(n3:Nat):Prop where
 expr:(o9 s.expr).rep w P [.int .i64 eo,.int .i64 en,.string es,.slice EA em ec]
 ref:(qp s.ref).rep w P [.string rs,.slice cr b5 rc]
 args:Sl w P cR n1 (s.args.map eP)
 th:Sl w P A2 n2 (dc s.th)
 el:Sl w P cu n3 (dc s.el)
theorem lN{s:aB}(h:(bk s).rep w P cs):∃eo en es EA em ec rs cr b5 rc cR n1 c1 A2 n2 c2 cu n3 c3,
  cs=[.int .i64 s.kind,.string s.name,.int .i64 eo,.int .i64 en,.string es,.slice EA em ec,.string rs,.slice cr b5 rc,.slice cR n1 c1,.slice A2 n2 c2,.slice cu n3 c3]/\
  Kl w P s eo en es EA em ec rs cr b5 rc cR n1 A2 n2 cu n3:=by
 rw[se] at h;unfold gW at h;rw[bK,bj] at h;obtain⟨y,rfl,h⟩:=h;rw[cx] at h;obtain⟨cf,rfl,h⟩:=h;obtain⟨H,bv,rfl,he,h⟩:=dL.1 h;obtain⟨ar,cL,rfl,ba,h⟩:=dL.1 h;obtain⟨cR,n1,c1,a,rfl,_,ac,h⟩:=aN.1 h;obtain⟨A2,n2,c2,b,rfl,_,az,h⟩:=aN.1 h;obtain⟨cu,n3,c3,d,rfl,_,aV,h⟩:=aN.1 h;rw[aR] at h;subst h;obtain⟨o,n,s,A,m,c,rfl⟩:=qq he;obtain⟨aq,I,bW,aD,rfl⟩:=uO ba
 iterate 19 apply Exists.intro
 exact⟨rfl,he,ba,ac,az,aV⟩
def oh:al->Prop
 | .nil=>True
 | .set _ _ e rest=>(∃N d,e.src N d)/\oh rest
 | .call _ _ aY rest=>((∀a∈aY,HF a)/\aY.length<=1000)/\oh rest
 | .lock _ r rest=>F4 r/\oh rest
 | .ite e th el rest=>(∃N d,e.src N d)/\oh th/\oh el/\oh rest
 | .gM e th rest=>(∃N d,e.src N d)/\oh th/\oh rest
 | .ret rest=>oh rest
def h1(b:al):Prop:=∀(t:Nat) (A:NH) (n c:Nat) (w:World),t+b.num<=1000000->Sl w (av w) A n (dc b)->(cJ t b).length<=262144->
 Calls prog 111 #[.slice A n c,.string (strOf (List.replicate t 9))] w λe ab=>e=.returned (.string (strOf (cJ t b)))/\Ext w ab
structure wu(s:aB)(N:Nat):Prop where
 expr:∀e,s.expr=some e->∃N d,e.src N d
 ref:∀r,s.ref=some r->F4 r
 args:∀a∈s.args,HF a
 jo:s.args.length<=1000
 th:h1 s.th
 el:h1 s.el
 Jy:s.th.num<N\/s.th=.nil
 Jx:s.el.num<N\/s.el=.nil
theorem hE{α:Type}{x:α}(h:(none:Option α)=some x):p:=by cases h
theorem LJ(f:∀b:al,(∀s∈b.list,wu s b.num)->h1 b):∀b:al,oh b->h1 b/\∀s∈b.list,wu s b.num:=by
 have mono:∀{s:aB} {n m:Nat},n<=m->wu s n->wu s m:=λh k=>⟨k.expr,k.ref,k.args,k.jo,k.th,k.el,k.Jy.imp (λx=>M0 x h) id,k.Jx.imp (λx=>M0 x h) id⟩
 have c:h1 .nil:=f .nil λs hs=>by simp[al.list] at hs
 have fin:∀b:al,(∀s∈b.list,wu s b.num)->h1 b/\∀s∈b.list,wu s b.num:=λb h=>⟨f b h,h⟩
 intro b
 induction b with
 | nil=>exact λ_=>fin _ λs hs=>by simp[al.list] at hs
 | set v n e rest aq=>
  intro h;refine fin _ λs hs=>?_;rcases Nk.1 hs with rfl|hs
  .exact⟨λl he=>(by cases he;exact h.1),λr ba=>hE ba,λa bg=>(nomatch bg),by simp[aB.args],c,c,.inr rfl,.inr rfl⟩
  .exact mono (by simp[al.num]) ((aq h.2).2 s hs)
 | call g n aY rest aq=>
  intro h;refine fin _ λs hs=>?_;rcases Nk.1 hs with rfl|hs
  .exact⟨λl he=>hE he,λr ba=>hE ba,h.1.1,h.1.2,c,c,.inr rfl,.inr rfl⟩
  .exact mono (by simp[al.num]) ((aq h.2).2 s hs)
 | lock u r rest aq=>
  intro h;refine fin _ λs hs=>?_;rcases Nk.1 hs with rfl|hs
  .exact⟨λl he=>hE he,λd ba=>(by cases ba;exact h.1),λa bg=>(nomatch bg),by simp[aB.args],c,c,.inr rfl,.inr rfl⟩
  .exact mono (by simp[al.num]) ((aq h.2).2 s hs)
 | ite e th el rest j o aq=>
  intro h;refine fin _ λs hs=>?_;rcases Nk.1 hs with rfl|hs
  .exact⟨λl he=>(by cases he;exact h.1),λr ba=>hE ba,λa bg=>(nomatch bg),by simp[aB.args],(j h.2.1).1,(o h.2.2.1).1,.inl (by simp[aB.th,al.num];omega),.inl (by simp[aB.el,al.num];omega)⟩
  .exact mono (by simp[al.num];omega) ((aq h.2.2.2).2 s hs)
 | gM e th rest j aq=>
  intro h;refine fin _ λs hs=>?_;rcases Nk.1 hs with rfl|hs
  .exact⟨λl he=>(by cases he;exact h.1),λr ba=>hE ba,λa bg=>(nomatch bg),by simp[aB.args],(j h.2.1).1,c,.inl (by simp[aB.th,al.num];omega),.inr rfl⟩
  .exact mono (by simp[al.num];omega) ((aq h.2.2).2 s hs)
 | ret rest aq=>
  intro h;refine fin _ λs hs=>?_;rcases Nk.1 hs with rfl|hs
  .exact⟨λl he=>hE he,λr ba=>hE ba,λa bg=>(nomatch bg),by simp[aB.args],c,c,.inr rfl,.inr rfl⟩
  .exact mono (by simp[al.num]) ((aq h).2 s hs)
end Go.Proofs.YtnigabjngpnbiabGreat
