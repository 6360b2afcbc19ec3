/- Part 11 of the proof. No condition of its own. -/
import Derived.Test.YtajlmkkidmjgoaaGreatDoorQ04
import Derived.Test.YtajlmkkidmjgoaaGreatDoorQ06
import Derived.Test.YtajlmkkidmjgoaaGreatDoorQ09
namespace Go.Proofs.YtajlmkkidmjgoaaGreatDoor
open Go.RowKit Go.Proofs.Tryz
set_option maxRecDepth 1000000
set_option maxHeartbeats 25600000
set_option linter.unusedVariables false
variable{op:Int}{l:List UInt8}{cs:List Value}{B N base g k m n:Nat}{M P:Nat->Prop}{p:Prop}{e t:TypeId}{x y:VE}{ab w:World}{r:eC}
def byteOf(v:Int):UInt8:=UInt8.ofNat v.toNat
theorem kv(W:World)(v:Int):(convert 95 9 (.slice (some ⟨W.heap.size,0,none⟩) 1 1)).run prog (W.alloc (.cells #[.int .u8 v] 5))=.ok (.string (strOf [byteOf v])) (W.alloc (.cells #[.int .u8 v] 5)):=by
 have:=run_convert_bytes_arg (P:=prog) (W.alloc (.cells #[.int .u8 v] 5)) 95 5 Tryz.underlying95 Tryz.underlying5 W.heap.size 0 1 1 [v] rfl (λi ak=>by
  have:i=0:=ad;subst this;rw[(an.new W 5 #[.int .u8 v]).cell];rfl) 9 Tryz.underlying9
 rw[this];rfl
theorem aK(l:List UInt8):(strOf l).size=l.length:=by simp[strOf,ByteArray.size]
theorem oD(m:Nat):byteOf (48+((m:Int) % 10))=UInt8.ofNat (48+m % 10):=by
 unfold byteOf;congr 1
theorem ret_str{a b:ByteArray}(h:a=b):Ending.returned (.string a)=.returned (.string b):=by rw[h]
theorem ag(a b:List UInt8):strOf a++strOf b=strOf (a++b):=by
 unfold strOf;rw[ByteArray.ext_iff];simp
def iy(N m:Nat)(l:List UInt8):Prop:=iN N=(if m=0 then [] else iN m)++l
theorem qe(N:Nat):iy N (N / 10) [UInt8.ofNat (48+N % 10)]:=by
 unfold iy;rw[iN];split
 .rename_i h;rw[if_pos ad,show N % 10=N by omega];rfl
 .rw[if_neg ad]
theorem AS(h:iy N m l)(hm:0<m):iy N (m / 10) (UInt8.ofNat (48+m % 10)::l):=by
 unfold iy at *;rw[if_neg ad] at h;rw[h];have:=qe m;unfold iy at this;rw[this];simp
theorem CL(h:iy N m l)(hN:N<=9223372036854775808):l.length<=20:=by
 have:=iO 19 N ad;unfold iy at h;rw[h,Hz] at this;omega
theorem oI(N:Nat)(w:World)(hN:N<=9223372036854775808) :
  Calls prog 116 #[.int .u64 N] w λe ab=>e=.returned (.string (strOf (iN N)))/\Below w.heap.size w ab:=by
 have kc:=kv w;go_enter func116,ntmps116;go_wp2;go_loopw [0,3] (λa sv wr=>∃(m:Nat) (l:List UInt8),a=.int .u64 m/\sv=.string (strOf l)/\m<=N/\iy N m l/\Below w.heap.size w wr) (λa _ _=>(intOf a).toNat)
 case atStart=>exact⟨N / 10,[byteOf (48+(N:Int) % 10)],by simp,rfl,ad,by rw[oD];exact qe N,(Below.refl _ _).alloc (Hx _) _⟩
 case round=>
  obtain⟨m,l,rfl,rfl,hm,aY,O⟩:=hrel;obtain⟨a8,a7⟩:=aN aY O;have hl:=CL aY hN;clear aY O kc;have kc:=kv wr;by_cases h0:0<m
  .have q:decide ((m:Int) > 0)=true:=by simp;omega
   have o:decide (m > 0)=true:=by simp;omega
   have bi:(strOf l).size<=20:=by rw[aK];omega
   have cP:(strOf [byteOf (48+(m:Int) % 10)]).size<=1:=by rw[aK];simp
   go_wp2;go_roundw
   case rel=>exact⟨m / 10,byteOf (48+(m:Int) % 10)::l,by simp,by rw[ag];rfl,ad,by rw[oD];exact AS a8.o h0,a7.alloc a7.size _⟩
   case measure=>exact aF
  .have bq:m=0:=ad;have bf:=ae (show iN N=l by have:=a8.o;unfold iy at this;rw[if_pos bq] at this;simpa using this);have q:decide ((m:Int) > 0)=false:=by simp;omega
   clear bq;go_wp2;go_ret;exact⟨ret_str (by rw[bf.o]),a7.o⟩
def k7(n:Int):List UInt8:=aR (g3 n)
theorem xN{n:Int}(h:n<0):k7 n=45::iN n.natAbs:=by unfold k7 g3;rw[if_pos h];simp[aR,Atom.bytes]
theorem tr{n:Int}(h:0<=n):k7 n=iN n.toNat:=by unfold k7 g3;rw[if_neg ad];simp[aR,Atom.bytes]
theorem lE(n:Int)(w:World)(h:-9223372036854775808<=n/\n<=9223372036854775807) :
  Calls prog 89 #[.int .i64 n] w λe ab=>e=.returned (.string (strOf (k7 n)))/\Below w.heap.size w ab:=by
 by_cases hn:n<0
 .obtain⟨m,rfl⟩:∃m:Nat,n = -((m:Int)+1):=⟨(-(n+1)).toNat,ad⟩
  have hm:m<=9223372036854775807:=ad;have bX:=ae (xN hn);clear hn h;go_enter func89,ntmps89;go_wp2_with(fail);rw[show (-(-((m:Int)+1)+1)+1)=((m+1:Nat):Int) by omega];refine(oI (m+1) w ad).mono ?_;rintro e ab ⟨rfl,O⟩;have a7:=ae O;clear O;have bi:(strOf (iN (m+1))).size<=20:=by rw[aK];exact iO 19 _ ad
  go_wp2;go_ret;exact⟨ret_str (by rw[bX.o,show (-((m:Int)+1)).natAbs=m+1 by omega];exact ag [45] _),a7.o⟩
 .obtain⟨m,rfl⟩:=Ic (show 0<=n by omega);have bX:=ae (tr (n:=(m:Int)) ad);clear hn;go_enter func89,ntmps89;go_wp2_with(fail);refine(oI m w ad).mono ?_;rintro e ab ⟨rfl,O⟩;have a7:=ae O;clear O;go_wp2;go_ret;exact⟨ret_str (by rw[bX.o,Iw]),a7.o⟩
def my:Nat->List (List UInt8×Int)
 | 0=>[([124,124],17)]
 | 1=>[([38,38],16)]
 | 2=>[([61,61],14),([33,61],15),([60],10),([60,61],11),([62],12),([62,61],13)]
 | 3=>[([43],8),([45],9)]
 | _=>[([42],5),([47],6),([37],7)]
def Fg(k:Nat):List ByteArray:=(my k).map λp=>strOf p.1
def m6(k:Nat):List Int:=(my k).map (·.2)
theorem B4{cs:Array Value}{l:List Int}(h:an w g t cs)(hc:cs=(l.map (Value.int .i64)).toArray)(hl:l.length=n)(aS:g<B):cJ (EF cD) 1 w B (some ⟨g,0,none⟩) n l:=by
 subst hc;refine⟨hl,λ_=>⟨g,0,rfl,aS,λk x hx=>⟨cD x,rfl,rfl,λj v a1=>?_⟩⟩⟩;have eG:j=0/\v=.int .i64 x:=by
  cases j with
  | zero=>simp[cD] at a1;exact⟨rfl,a1.symm⟩
  | succ j=>simp[cD] at a1
 obtain⟨rfl,rfl⟩:=eG;rw[h.cell];simp[hx]
theorem B5{cs:Array Value}{l:IQ}(h:an w g t cs)(hc:cs=(l.map Value.string).toArray)(hl:l.length=n)(aS:g<B):cJ (EF nN) 1 w B (some ⟨g,0,none⟩) n l:=by
 subst hc;refine⟨hl,λ_=>⟨g,0,rfl,aS,λk x hx=>⟨nN x,rfl,rfl,λj v a1=>?_⟩⟩⟩;have eG:j=0/\v=.string x:=by
  exact x8
 obtain⟨rfl,rfl⟩:=eG;rw[h.cell];simp[hx]
def xX(w:World)(k:Nat)(e:Ending)(ab:World):Prop:=
 ∃A B n,n<=6/\e=.returned (.tuple #[.slice A n n,.slice B n n])/\cJ (EF nN) 1 ab ab.heap.size A n (Fg k)/\cJ (EF cD) 1 ab ab.heap.size B n (m6 k)/\Ext w ab
theorem qI(k:Nat)(ap:k<=4)(w:World):Calls prog 127 #[.int .i64 k] w (xX w k):=by
 obtain rfl|rfl|rfl|rfl|rfl:k=0\/k=1\/k=2\/k=3\/k=4:=ad
 all_goals
  clear ap;go_enter func127,ntmps127;go_wp2
  go_ret2
  generalize ba:World.alloc (World.alloc w _) _=W;refine⟨some ⟨w.heap.size,0,none⟩,some ⟨w.heap.size+1,0,none⟩,_,by decide,rfl,B5 (t:=9) (cs:=((Fg _).map Value.string).toArray) ?_ rfl rfl ?_,B4 (t:=3) (cs:=((m6 _).map (Value.int .i64)).toArray) ?_ rfl rfl ?_,?_⟩
  .rw[<-ba];exact(IL).alloc _
  .rw[<-ba];simp;omega
  .rw[<-ba];exact an.fu _ _ _ (by simp)
  .rw[<-ba];simp
  .rw[<-ba];exact(IK.alloc _).alloc _
theorem CE(ap:k<=4)(h:op∈m6 k):cC op=k:=by
 obtain rfl|rfl|rfl|rfl|rfl:k=0\/k=1\/k=2\/k=3\/k=4:=ad
 all_goals
  simp[m6,my] at h;unfold cC
  repeat' split
  all_goals omega
theorem AK(h:∀k:Nat,k<5->op∉m6 k):cC op=if op=3\/op=4 then 5 else 6:=by
 have h0:=h 0 ad;have ac:=h 1 ad;have J:=h 2 ad;have aR:=h 3 ad;have bv:=h 4 ad;simp[m6,my] at h0 ac J aR bv;unfold cC;rw[if_neg ad,if_neg ad,if_neg ad,if_neg ad,if_neg ad]
theorem fV(op:Int)(w:World):Calls prog 125 #[.int .i64 op] w λe ab=>e=.returned (.int .i64 (cC op))/\Ext w ab:=by
 go_enter func125,ntmps125;go_wp2;go_loopw [3] (λah wr=>∃k:Nat,k<=5/\ah=.int .i64 k/\(∀i:Nat,i<k->op∉m6 i)/\Ext w wr) (λah _=>6 - (intOf ah).toNat)
 case atStart=>exact⟨0,ad,rfl,λi h=>ad,IK⟩
 case round=>
  obtain⟨k,ap,rfl,ct,O⟩:=hrel;obtain⟨a7,b2⟩:=aN O ct;clear O ct;by_cases al:k<5
  .have q:decide ((k:Int)<5)=true:=by simp;omega
   go_wp2_with(fail);refine(qI k ad _).mono ?_;rintro e aT ⟨A,B,n,hn,rfl,hs,bu,he⟩;have cL:=ai bu he;clear hs bu he;go_wp2_with(fail)
   go_loop [6] (λci=>∃j:Nat,j<=n/\ci=.int .i64 j/\∀(i:Nat) (x:Int),i<j->(m6 k)[i]?=some x->x≠op) (λci=>n - (intOf ci).toNat)
   case atStart=>exact⟨0,ad,rfl,λi x h=>ad⟩
   case round=>
    obtain⟨j,a1,rfl,aZ⟩:=hrel;have bf:=ae aZ;clear aZ;by_cases G:j<n
    .obtain⟨b,o,x,rfl,ao,hx,hc⟩:=cL.1.int G;have aV:=ae hx;clear hx;by_cases pZ:x=op
     .have q1:(x == op)=true:=by simpa using pZ
      have a8:=ae (CE (op:=op) (k:=k) ad (by rw[<-pZ];exact Ia aV.o));clear pZ;go_wp2;go_ret;exact⟨ret_int a8.symm,a7.trans cL.2⟩
     .have q1:(x == op)=false:=by simpa using pZ
      have Q:=ae pZ;clear pZ;go_wp2
      go_round
      case rel=>exact⟨j+1,ad,by go_num,λi y ak a4=>by
       by_cases u:i=j
       .subst u;rw[aV.o] at a4;injection a4 with a4;subst a4;exact Q.o
       .exact bf.o i y ad a4⟩
      case measure=>exact aF
    .have c:j=n:=ad;have cI:=ae (show op∉m6 k from λhm=>by
      obtain⟨i,ak⟩:=List.getElem?_of_mem hm;have al:=(List.getElem?_eq_some_iff.1 ak).1;have hl:=cL.1.1;exact bf.o i op ad ak rfl)
     have dq:decide ((j:Int)<(n:Int))=false:=by simp;omega
     clear c;go_wp2;go_roundw
     case rel=>exact⟨k+1,ad,by go_num,λi ak=>by
      by_cases bM:i=k
      .subst bM;exact cI.o
      .exact b2.o i ad,a7.trans cL.2⟩
     case measure=>exact aF
  .have bb:k=5:=ad;have a8:=ae (AK (op:=op) (λi ak=>b2.o i ad));subst bb;by_cases aR:op=3\/op=4
   .have aq:=ae (a8.trans (if_pos aR));rcases aR with rfl|rfl
    all_goals
     go_wp2;go_ret;exact⟨ret_int aq.symm,a7.o⟩
   .have aq:=ae (a8.trans (if_neg aR));have dg:(op == 3)=false:=by simp;omega
    have c8:(op == 4)=false:=by simp;omega
    clear aR;go_wp2;go_ret;exact⟨ret_int aq.symm,a7.o⟩
theorem C7(x:VE):x.aZ=aZ x:=by cases x<;>rfl
theorem qq(op n N:Int)(nm:ByteArray)(b o m c:Nat)(k:Nat)(w:World)(ap:k<=1)(M:k<m)(O:b<w.heap.size)(hc:w.cell? ⟨b,o+k*4,none⟩=some (.int .i64 N)) :
  Calls prog 126 #[.agg #[.int .i64 op,.int .i64 n,.string nm,.slice (some ⟨b,o,none⟩) m c],.int .i64 k] w λe ab=>e=.returned (.bool (df op N (k == 1)))/\Ext w ab:=by
 have di:(0:Int)<=(k:Int):=ad;have cm:(k:Int)<(m:Int):=ad;go_enter func126,ntmps126;go_wp2;generalize ba:World.alloc _ _=W;have aw:=bm ba;obtain⟨aI,aj,af⟩:=(show an W w.heap.size 128 #[.int .i64 op,.int .i64 n,.string nm,.slice (some ⟨b,o,none⟩) m c] by rw[<-ba];exact IL).two;have aZ:=(aw.cell (j:=o+k*4) O (λh=>h)).trans hc;have f:b<W.heap.size:=Hy O aw.size;have bf:=ae aw;clear ba aw hc;refine eB (λ_=>False) [(0,3),(1,0),(2,3),(3,3),(4,3),(5,0),(7,3),(8,0),(6,1),(9,2),(10,3),(11,3)] ?_;refine pf ?_;refine ph ?_
 iterate 3 refine pf ?_
 refine ph ?_;refine pf ?_;refine ph ?_;refine aD rfl (λK hK=>?_);go_simp;refine(fV N _).mono ?_;rintro e aO ⟨rfl,ar⟩;refine dA hK (ar) ?_;clear hK K;have bh:=ae (bf.trans (Fr.aJ ar));clear ar;refine au rfl (λK hK=>?_);go_simp;refine(fV op _).mono ?_;rintro e aT ⟨rfl,bx⟩;refine dW hK ?_;clear hK K;have a3:=ae (bh.trans bx);clear bx aI aj af aZ
 iterate 2 refine pf ?_
 refine aB ?_;have a7:=ae (show df op N (k == 1)=(decide (cC N<cC op) || (cC N == cC op && k == 1)) from rfl);generalize cC N=x at *;generalize cC op=y at *;by_cases ac:x<y
 .have a8:=ae (show df op N (k == 1)=true by rw[a7.o];simp[ac]);clear a7;exact vO
 have q1:decide (x<y)=false:=by simpa using ac
 by_cases J:x=y
 .have dq:(x == y)=true:=by simpa using J
  by_cases aR:k=1
  .have a8:=ae (show df op N (k == 1)=true by rw[a7.o];simp[J,aR]);have dg:((k:Int) == 1)=true:=by simp;omega
   have a:(k == 1)=true:=by simp;omega
   clear a7 ac J aR;exact vO
  .have a8:=ae (show df op N (k == 1)=false by rw[a7.o];simp[J,aR]);have dg:((k:Int) == 1)=false:=by simp;omega
   have a:(k == 1)=false:=by simp;omega
   clear a7 ac J aR;exact vO
 .have dq:(x == y)=false:=by simpa using J
  have a8:=ae (show df op N (k == 1)=false by rw[a7.o];simp[ac,J]);clear a7 ac J;exact vO
theorem j2:b2 prog 98 9 (.string ⟨#[]⟩) 1 16:=b2.mk' Tryz.underlying98 (by kernel_rfl) rfl ad
def bM(x:VE):List UInt8:=aR (b3 x)
def ga(op:Int)(k:Nat)(y:VE):List UInt8:=aR (par (df op (aZ y) (k == 1)) (b3 y))
def gg:VE->List (List UInt8)
 | .un op x=>[ga op 0 x]
 | .bin op x y=>[ga op 0 x,ga op 1 y]
 | _=>[]
theorem vU(op:Int)(k:Nat)(y:VE):ga op k y=if df op (aZ y) (k == 1) then 40::(bM y++[41]) else bM y:=by
 unfold ga par bM;split
 .rw[aY,a1];rfl
 .rfl
theorem vV(op:Int)(k:Nat)(y:VE):(bM y).length<=(ga op k y).length:=by
 rw[vU];split<;>simp
 omega
theorem wH(op:Int)(x:VE):bM (.un op x)=(if op=3 then 45 else 33)::ga op 0 x:=by
 unfold bM b3 ga;rw[aY];split<;>rfl
theorem td(op:Int)(x y:VE):bM (.bin op x y)=ga op 0 x++32::(gA op++32::ga op 1 y):=by
 unfold bM b3 ga;rw[a1,aY,aY,aY];rfl
theorem j3(x:VE){t:List UInt8}(h:(gg x)[k]?=some t):t.length<=(bM x).length:=by
 cases x with
 | un op x=>
  rw[wH]
  match k,h with
  | 0,h=>simp[gg] at h;subst h;simp
 | bin op x y=>
  rw[td]
  match k,h with
  | 0,h=>simp[gg] at h;subst h;simp
  | 1,h=>simp[gg] at h;subst h;simp;omega
 | num n=>simp[gg] at h
 | gI n=>simp[gg] at h
 | loc n=>simp[gg] at h
 | iq n=>simp[gg] at h
theorem lV(x:VE)(h:x.args[k]?=some y):(gg x)[k]?=some (ga x.aZ k y)/\k<=1:=by
 cases x with
 | un op x=>
  match k,h with
  | 0,h=>simp[VE.args] at h;subst h;simp[gg,VE.aZ]
 | bin op x y=>
  match k,h with
  | 0,h=>simp[VE.args] at h;subst h;simp[gg,VE.aZ]
  | 1,h=>simp[VE.args] at h;subst h;simp[gg,VE.aZ]
 | num n=>simp[VE.args] at h
 | gI n=>simp[VE.args] at h
 | loc n=>simp[VE.args] at h
 | iq n=>simp[VE.args] at h
theorem wT(x:VE):(gg x).length=x.args.length:=by cases x<;>rfl
theorem sa(x:VE):x.args.length<=2:=by cases x<;>simp[VE.args]
theorem pD{N:IQ}{d:Nat}(h:x.src N (d+1))(a4:x.args[k]?=some y):y.src N d:=by
 cases x with
 | un op x=>
  match k,a4 with
  | 0,a4=>simp[VE.args] at a4;subst a4;exact h.2
 | bin op x y=>
  match k,a4 with
  | 0,a4=>simp[VE.args] at a4;subst a4;exact h.2.1
  | 1,a4=>simp[VE.args] at a4;subst a4;exact h.2.2
 | num n=>simp[VE.args] at a4
 | gI n=>simp[VE.args] at a4
 | loc n=>simp[VE.args] at a4
 | iq n=>simp[VE.args] at a4
theorem pE{N:IQ}(h:x.src N 0):x.args=[]:=by
 cases x with
 | un op x=>exact h.elim
 | bin op x y=>exact h.elim
 | num n=>rfl
 | gI n=>rfl
 | loc n=>rfl
 | iq n=>rfl
theorem Dm{i:Nat}(h:5<=op/\op<=17)(ak:(m6 (cC op).toNat)[i]?=some op):(Fg (cC op).toNat)[i]?=some (strOf (gA op)):=by
 obtain⟨ac,J⟩:=h;obtain rfl|rfl|rfl|rfl|rfl|rfl|rfl|rfl|rfl|rfl|rfl|rfl|rfl:op=5\/op=6\/op=7\/op=8\/op=9\/op=10\/op=11\/op=12\/op=13\/op=14\/op=15\/op=16\/op=17:=ad
 all_goals
  match i,ak with
  | 0,ak=>first|rfl|(exact absurd ak (by decide))
  | 1,ak=>first|rfl|(exact absurd ak (by decide))
  | 2,ak=>first|rfl|(exact absurd ak (by decide))
  | 3,ak=>first|rfl|(exact absurd ak (by decide))
  | 4,ak=>first|rfl|(exact absurd ak (by decide))
  | 5,ak=>first|rfl|(exact absurd ak (by decide))
  | i+6,ak=>simp[m6,my,cC] at ak
theorem s3(h:5<=op/\op<=17):∃k:Nat,k<=4/\cC op=k/\op∈m6 k:=by
 obtain⟨ac,J⟩:=h;obtain rfl|rfl|rfl|rfl|rfl|rfl|rfl|rfl|rfl|rfl|rfl|rfl|rfl:op=5\/op=6\/op=7\/op=8\/op=9\/op=10\/op=11\/op=12\/op=13\/op=14\/op=15\/op=16\/op=17:=ad
 all_goals first|exact⟨0,ad,rfl,by decide⟩|exact⟨1,ad,rfl,by decide⟩|exact⟨2,ad,rfl,by decide⟩|exact⟨3,ad,rfl,by decide⟩|exact⟨4,ad,rfl,by decide⟩
def xZ(x:VE):Prop:=∀(op n:Int) (s:ByteArray) (A:IP) (m c:Nat) (w:World),(a7 x).rep w (av w) [.int .i64 op,.int .i64 n,.string s,.slice A m c]->(bM x).length<=262144->
 Calls prog 117 #[.agg #[.int .i64 op,.int .i64 n,.string s,.slice A m c]] w λe ab=>e=.returned (.string (strOf (bM x)))/\Ext w ab
theorem vd{l:List (List UInt8)}{t:List UInt8}(h:l[k]?=some t):(l.take (k+1)).map (λt=>Value.string (strOf t))=(l.take k).map (λt=>Value.string (strOf t))++[Value.string (strOf t)]:=by
 rw[List.take_add_one,h,Ig];rfl
theorem A3(l:IQ):l.flatMap nN=l.map Value.string:=by
 induction l with
 | nil=>rfl
 | cons a l aa=>rw[Iv,aa];rfl
theorem xw{A:IP}{c:Nat}{l:List (List UInt8)}(h:w.ownsRow base e 1 (.slice A n c) n (l.map λt=>Value.string (strOf t)))(hl:l.length=n):cJ (EF nN) 1 w w.heap.size A n (l.map strOf):=
 jb (f:=nN) (l:=l.map strOf) (by rw[A3,List.map_map];exact h) (λ_ _=>rfl) (by rw[Ib];exact hl)
structure oj(w wr:World)(x:VE)(A:IP)(m c:Nat):Prop where
 ext:Ext w wr
 blk:an wr w.heap.size 128 #[.int .i64 x.aZ,.int .i64 x.numOf,.string x.bg,.slice A m c]
 args:Sl wr (av w) A m (x.args.map a7)
theorem oj.on{w wr ab:World}{x:VE}{A:IP}{m c:Nat}(h:oj w wr x A m c)(O:Fr (λb=>w.heap.size<b) wr ab):oj w ab x A m c:=
 ⟨⟨O.os.trans h.ext.os,O.tape.trans h.ext.tape,O.output.trans h.ext.output,Ir h.ext.size O.size,λk ap hn=>(O.block k (Hy ap h.ext.size) ad).trans (h.ext.block k ap hn)⟩,
  h.blk.on O ad,h.args.al λb al=>O.block b (Hy al h.ext.size) (by have:b<w.heap.size:=al;omega)⟩
theorem EP{sz:Nat}{v:Value}{xs:List Value}(I:w.ownsRow base e sz v n xs)(aM:w.grownBy ab v.ownBlock)(O:∀g,base<=g->M g):Fr M w ab:=
 (Fr.refl M w).grown aM λk ap=>.inl (O k (I.lt k ap).1)
theorem Ext.fr(h:Ext w ab):Fr M w ab:=h.mono λ_ h=>h.elim
namespace zp
theorem oo(h:p:=by
 have az:m<=2:=by rw[<-hs.1,Ib];exact sa x
 have ck:(gg x).length=m:=by rw[wT,<-hs.1,Ib]
 obtain⟨bJ,bs,c6,aV,F⟩:=Av ck hs aa hx hlen;clear aY hs aa hx hlen ck;go_enter func117,ntmps117;go_wp2;generalize ba:World.alloc _ _=W;have a5:oj w W x A m c:=by
  have aw:=bm ba;exact⟨aw,by rw[<-ba];exact IL,bs.al λb al=>aw.block b al (λh=>h)⟩
 have bX:=ae a5;clear ba a5;go_loopw [3,4] (λsv ah wr=>∃k:Nat,k<=m/\ah=.int .i64 k/\oj w wr x A m c/\wr.ownsRow (w.heap.size+1) 9 1 sv k (((gg x).take k).map λt=>Value.string (strOf t))) (λ_ ah _=>m - (intOf ah).toNat)
 case atStart=>exact⟨0,ad,rfl,bX.o,by simp,.inl ⟨rfl,rfl⟩⟩
 case round=>
  obtain⟨k,ap,rfl,a5,I⟩:=hrel;clear bX;obtain⟨bE,br,rfl,dR,_,_,_⟩:=bI I;obtain⟨bX,cL⟩:=aN a5 I;obtain⟨aI,aj,af⟩:=a5.blk.two;clear a5 I;by_cases al:k<m
  .obtain⟨b,o,y,cs,rfl,O,a4,P,bd,Z⟩:=bX.args.gH cY al
   match cs,bd with
   | [b1,cj,bp,aJ],_=>
   have c0:=Z 0 b1 rfl;have c1:=Z 1 cj rfl;have c2:=Z 2 bp rfl;have c3:=Z 3 aJ rfl;simp only[Ij] at c0;have aX:b<wr.heap.size:=Hy O bX.ext.size;clear Z O;obtain⟨B,bN,bc,e,cx,cb⟩:=aW.1 P;simp only[List.cons.injEq,and_true] at e;obtain⟨rfl,rfl,rfl,rfl⟩:=e;have bY:=ae a4;have H:=ae (D.aH (bW:=av wr) (λb al=>Hy al bX.ext.size) _ _ P);clear a4 P cb;go_wp2_with(fail);refine(c6.o k y bY.o _ _ _ _ _ _ wr H.o ?_).mono ?_
   .exact Ir (vV x.aZ k y) (Ir (j3 x (lV x bY.o).1) F.o)
   rintro e aO ⟨rfl,ar⟩;have b7:=(lV x bY.o).2;have b8:=ae (bX.on ar.fr);have d0:=(ar.cell (j:=o+k*4) aX (λh=>h)).trans c0;have bo:b<aO.heap.size:=Hy aX ar.size;have ab:=ae (b5 cL.o (Fr.ext ar));clear bX cL aI aj af c0 c1 c2 c3 ar aX;obtain⟨aI,aj,af⟩:=b8.blk.two;go_wp2_with(fail);refine(qq x.aZ x.numOf y.aZ x.bg b o m c k aO b7 al bo d0).mono ?_;rintro e aT ⟨rfl,bx⟩;have l:=ae (b8.on bx.fr);have aD:=ae (b5 ab.o (Fr.ext bx));clear b8 ab aI aj af d0 bo bx;obtain⟨aI,aj,af⟩:=l.blk.two;have HA:=ae (vU x.aZ k y);have S:=ae (lV x bY.o).1;have bi:(strOf (bM y)).size<=262144:=by
    rw[aK];exact Ir (vV x.aZ k y) (Ir (j3 x (lV x bY.o).1) F.o)
   rw[<-C7] at *;have cb:w.heap.size+1<=aT.heap.size:=l.blk.lt;by_cases ak:df x.aZ y.aZ (k == 1)=true
   .rw[ak];have aP:=ae (show (⟨#[40]⟩:ByteArray)++strOf (bM y)++⟨#[41]⟩=strOf (ga x.aZ k y) by
     rw[HA.o,if_pos ak,show (⟨#[40]⟩:ByteArray)=strOf [40] from rfl,show (⟨#[41]⟩:ByteArray)=strOf [41] from rfl,ag,ag];simp)
    clear ak HA;exact DP
   .have r:df x.aZ y.aZ (k == 1)=false:=by simpa using ak
    rw[r];have aP:=ae (show strOf (bM y)=strOf (ga x.aZ k y) by rw[HA.o,if_neg ak]);clear ak r HA;exact DP
  .have M:k=m:=ad;subst M;have a8:=ae (xw (by
    have:=cL.o;rw[<-bJ.o,List.take_length] at this;rw[<-bJ.o];exact this) bJ.o)
   have bf:=ae bX.ext;clear cL c6;have hg:decide ((k:Int)<(k:Int))=false:=by simp
   cases x with
   | num n=>
    have hn:0<=n/\n<4611686018427387904:=by have:=aV.o;cases d<;>exact this
    have b2:=ae (show k7 n=bM (.num n) by rw[tr hn.1];simp[bM,b3,aR,Atom.bytes]);have O:=lE n wr ad;simp only[VE.aZ,VE.numOf,VE.bg] at *;clear hg;go_wp2_with(fail);refine O.mono ?_;rintro e aO ⟨rfl,ar⟩;have bh:=ae (bf.trans (Fr.of ar));clear ar O;go_wp2;go_ret
    exact⟨ret_str (by rw[b2.o]),bh.o⟩
   | gI s=>
    simp only[VE.aZ,VE.numOf,VE.bg] at *;have b2:=ae (show s=strOf (bM (.gI s)) by simp[bM,b3,aR,Atom.bytes,strOf]);go_wp2;go_ret
    exact⟨ret_str b2.o,bf.o⟩
   | loc j=>exact(by have:=aV.o;cases d<;>exact this:False).elim
   | iq j=>exact(by have:=aV.o;cases d<;>exact this:False).elim
   | un op y=>
    obtain rfl:k=1:=bJ.symm;obtain⟨b,o,z,rfl,O,bi,hc⟩:=a8.str (k:=0) ad;have U:strOf (ga op 0 y)=z:=by simpa[gg] using bi
    subst U;have bT:(strOf (ga op 0 y)).size<=262144:=by
     rw[aK];exact Ir (j3 (.un op y) (k:=0) rfl) F.o
    have ch:op=3\/op=4:=by
     cases d with
     | zero=>exact aV.elim
     | succ d=>exact aV.1
    have l:=ae (wH op y);simp only[Ij] at hc;clear bi aV bX F bJ az bG hg af dR;rcases ch with rfl|rfl
    .have b2:=ae (show (⟨#[45]⟩:ByteArray)++strOf (ga 3 0 y)=strOf (bM (.un 3 y)) by rw[l.o,if_pos rfl];exact ag [45] _);clear l;generalize ga 3 0 y=t at *;exact ya
    .have b2:=ae (show (⟨#[33]⟩:ByteArray)++strOf (ga 4 0 y)=strOf (bM (.un 4 y)) by rw[l.o,if_neg ad];exact ag [33] _);clear l;generalize ga 4 0 y=t at *
     exact ya
   | bin op y z=>
    obtain rfl:k=2:=bJ.symm;obtain⟨b,o,aG,rfl,O,X,J⟩:=a8.str (k:=0) ad;obtain⟨K,V,R,e,_,cP,a6⟩:=a8.str (k:=1) ad;simp only[IE,Addr.mk.injEq,and_true] at e;obtain⟨rfl,rfl⟩:=e;have U:strOf (ga op 0 y)=aG:=by simpa[gg] using X
    have ac:strOf (ga op 1 z)=R:=by simpa[gg] using cP
    subst U ac;have aL:(strOf (ga op 0 y)).size<=262144:=by
     rw[aK];exact Ir (j3 (.bin op y z) (k:=0) rfl) F.o
    have ho:(strOf (ga op 1 z)).size<=262144:=by
     rw[aK];exact Ir (j3 (.bin op y z) (k:=1) rfl) F.o
    have ch:5<=op/\op<=17:=by
     cases d with
     | zero=>exact aV.elim
     | succ d=>exact aV.1
    have b2:=ae (show ((strOf (ga op 0 y)++⟨#[32]⟩)++strOf (gA op))++⟨#[32]⟩++strOf (ga op 1 z)=strOf (bM (.bin op y z)) by
     rw[td,show (⟨#[32]⟩:ByteArray)=strOf [32] from rfl,ag,ag,ag,ag];simp)
    have bF:(strOf (gA op)).size<=2:=by
     rw[aK];unfold gA
     repeat' split
     all_goals simp
    have o1:(op == 1)=false:=by simp;omega
    have fg:(op == 2)=false:=by simp;omega
    have dk:(op == 3)=false:=by simp;omega
    have dL:(op == 4)=false:=by simp;omega
    obtain⟨ca,bn,aq,dg⟩:=s3 ch;have au:=ae (λ(i:Nat)=>Dm (i:=i) ch);obtain⟨Y,c8⟩:=aN dg aq;simp only[Ij] at J;clear X cP aV F bJ az bG hg af dR a8 dg ch;generalize strOf (ga op 0 y)=t0 at *;generalize strOf (ga op 1 z)=t1 at *;generalize strOf (gA op)=sg at *;simp only[VE.aZ,VE.numOf,VE.bg] at *;go_wp2_with(fail);refine(fV op wr).mono ?_;rintro e aO ⟨rfl,ar⟩;rw[aq];go_wp2_with(fail);refine(qI ca bn aO).mono ?_;rintro e aT ⟨bE,aA,n,hn,rfl,hs,bu,bx⟩;have q:=ar.trans bx;have a3:=ae (bf.trans q);have e0:=(q.cell (j:=o) O (λh=>h)).trans J;have e1:=(q.cell (j:=o+1) O (λh=>h)).trans a6;have bw:b<aT.heap.size:=Hy O q.size;have l:=ae (bX.on (Ext.fr q));obtain⟨be,am,aH⟩:=l.blk.two;simp only[VE.aZ,VE.numOf,VE.bg] at be;have cL:=ai hs bu;clear hs bu ar bx q J a6 O aI aj bX bf aq;go_wp2_with(fail);go_loopw [8] (λci wr=>∃j:Nat,j<=n/\ci=.int .i64 j/\(∀(i:Nat) (x:Int),i<j->(m6 ca)[i]?=some x->x≠op)/\Ext aT wr) (λci _=>n - (intOf ci).toNat)
    case atStart=>exact⟨0,ad,rfl,λi x h=>ad,IK⟩
    case round=>
     obtain⟨j,a1,rfl,aZ,bV⟩:=hrel;obtain⟨bH,bl⟩:=aN aZ bV;obtain⟨v0,ax⟩:=Fr.rP bV;clear aZ bV;by_cases G:j<n
     .obtain⟨c1,aQ,x,rfl,bA,hx,ay⟩:=cL.2.int G;obtain⟨c2,aS,gL,rfl,aC,c7,T⟩:=cL.1.str G;have aV:=ae hx;by_cases pZ:x=op
      .subst pZ;have v:=au.o j (by rw[c8.o];exact hx);rw[c8.o,Iw,c7] at v;injection v with v;subst v;clear hx c7;go_wp2;go_quiet (fail)
       go_wp2;go_quiet (fail)
       go_wp2;go_ret;exact⟨ret_str b2.o,a3.trans ((bl.drewN _).drewN _)⟩
      .have q1:(x == op)=false:=by simpa using pZ
       have Q:=ae pZ;clear pZ hx c7;go_wp2;go_quiet (fail)
       go_wp2
       go_round
       case rel=>refine⟨j+1,ad,by go_num,λi y ak a4=>?_,?_⟩;rotate_left;exact bl.drewN _;exact(by
        by_cases u:i=j
        .subst u;rw[aV.o] at a4;injection a4 with a4;subst a4;exact Q.o
        .exact bH.o i y ad a4)
       case measure=>exact aF
     .exfalso;obtain⟨i,ak⟩:=List.getElem?_of_mem Y.o;have al:=(List.getElem?_eq_some_iff.1 ak).1;have hl:=cL.2.1;exact bH.o i op ad ak rfl
 ):p:=h
end zp
open zp in
theorem qL(N:IQ)(d:Nat)(x:VE)(hx:x.src N d)(aa:∀(k:Nat) (y:VE),x.args[k]?=some y->xZ y):xZ x:=by
 intro op n s A m c w aY hlen;exact om
theorem ji(N:IQ):∀(d:Nat) (x:VE),x.src N d->xZ x
 | 0,x,h=>qL N 0 x h λk y a4=>by rw[pE h] at a4;simp at a4
 | d+1,x,h=>qL N (d+1) x h λk y a4=>ji N d y (pD h a4)
def fI(r:eC):List UInt8:=aR (hL r)
theorem ve(h:r.idx=none):fI r=r.name.data.toList:=by
 unfold fI hL;rw[h];simp[aR,Atom.bytes]
theorem vf{e:VE}(h:r.idx=some e):fI r=r.name.data.toList++91::(bM e++[93]):=by
 unfold fI hL bM;rw[h];simp[aR,Atom.bytes]
theorem iS:(j9 r).rep w P cs↔∃A n c,cs=[.string r.name,.slice A n c]/\n<=c/\Sl w P A n (r.idx.toList.map a7):=by
 unfold j9;rw[bw,b9];constructor
 .rintro⟨y,rfl,h⟩;obtain⟨A,n,c,aJ,rfl,hc,hs,aR⟩:=aA.1 h;exact vL
 .rintro⟨A,n,c,rfl,hc,hs⟩;exact AD
def B7(r:eC):Prop:=∀e,r.idx=some e->∃N d,e.src N d
theorem cS(s:ByteArray):strOf s.data.toList=s:=by simp[strOf]
namespace zq
theorem yr(h:p:=by
 refine pf ?_;refine aB ?_;go_wp2;go_ret;exact⟨ret_str b2.o,bf.trans (Fr.aJ ar)⟩
 ):p:=h
end zq
open zq in
theorem kk(r:eC)(ao:B7 r)(s:ByteArray)(A:IP)(n c:Nat)(w:World)(aY:(j9 r).rep w (av w) [.string s,.slice A n c])(hlen:(fI r).length<=262144) :
  Calls prog 119 #[.agg #[.string s,.slice A n c]] w λe ab=>e=.returned (.string (strOf (fI r)))/\Ext w ab:=by
 obtain⟨aE,a0,L,e,aG,hs⟩:=iS.1 aY;simp only[List.cons.injEq,Value.string.injEq,Value.slice.injEq,and_true] at e;obtain⟨rfl,rfl,rfl,rfl⟩:=e
 cases ak:r.idx with
 | none=>
  rw[ak] at hs;obtain rfl:n=0:=hs.1.symm;have b2:=ae (show r.name=strOf (fI r) by rw[ve ak,cS]);clear ak hs aY hlen ao;go_enter func119,ntmps119;go_wp2;go_ret
  exact⟨ret_str b2.o,IK.alloc _⟩
 | some x=>
  rw[ak] at hs;obtain rfl:n=1:=hs.1.symm;obtain⟨N,d,hx⟩:=ao x ak;obtain⟨b,o,bU,Z,ay,F,rfl,O,G,c0,c1,c2,c3⟩:=Sl.BB hs (cY x);obtain⟨B,bN,bc,e,cx,cb⟩:=aW.1 G;simp only[List.cons.injEq,and_true] at e;obtain⟨rfl,rfl,rfl,rfl⟩:=e;have aX:b<w.heap.size:=O;have bX:=ae (vf ak);have X:r.name.size<=262144:=by
   have:=hlen;rw[bX.o,Hz] at this;have J:r.name.size=r.name.data.toList.length:=rfl;omega
  have cP:(bM x).length<=262144:=by
   have:=hlen;rw[bX.o,Hz] at this;simp at this;omega
  have b2:=ae (show r.name++⟨#[91]⟩++strOf (bM x)++⟨#[93]⟩=strOf (fI r) by
   rw[bX.o,show (⟨#[91]⟩:ByteArray)=strOf [91] from rfl,show (⟨#[93]⟩:ByteArray)=strOf [93] from rfl];conv=>lhs;rw[<-cS r.name]
   rw[ag,ag,ag];simp)
  have a2:=ae cP;have bu:(strOf (bM x)).size<=262144:=by rw[aK];exact cP
  have aV:=ae (ji N d x hx);have S:=ae G;clear ak hs aY hlen ao bX G cb O cP hx;go_enter func119,ntmps119;go_wp2;generalize ba:World.alloc _ _=W;have aw:=bm ba;obtain⟨aI,aj,af⟩:=(show an W w.heap.size 150 #[.string r.name,.slice (some ⟨b,o,none⟩) 1 c] by rw[<-ba];exact IL).two;have d0:=(aw.cell (j:=o) aX (λh=>h)).trans c0;have d1:=(aw.cell (j:=o+1) aX (λh=>h)).trans c1;have d2:=(aw.cell (j:=o+2) aX (λh=>h)).trans c2;have d3:=(aw.cell (j:=o+3) aX (λh=>h)).trans c3;have f:b<W.heap.size:=Hy aX aw.size;have bf:=ae aw;clear ba aw c0 c1 c2 c3 aX;refine eB (λ_=>False) [(0,3),(1,0),(2,3),(3,3),(4,0),(5,3),(6,0),(7,1),(8,3),(9,3),(10,3)] ?_;refine pf ?_;refine ph ?_;refine a9 (v:=?_) rfl (by rfl) (λV=>?_) ?_;rotate_left
  .go_simp;exact dQ
  try simp only[PU]
  refine pf ?_;refine ph ?_;refine pf ?_;refine ph ?_;refine aD rfl (λK hK=>?_);go_simp;refine(aV.o _ _ _ _ _ _ _ (D.on S.o (Fr.ext bf.drew)) a2.o).mono ?_;exact yq
def nF(a:cW):List UInt8:=aR (fb a)
def iz(l:List cW):List UInt8:=40::aR (dL (l.map fb))
def g6(l:List cW):List UInt8:=aR (ij l)
theorem qK(l:List cW):g6 l=iz l++[41]:=by
 unfold g6 ij iz;rw[aY,a1];rfl
theorem lB:∀(l:List (List Atom)) (a:List Atom),dL (l++[a])=if l=[] then a else dL l++(.sg [44]::.ws 32::a)
 | [],a=>rfl
 | [b],a=>by simp[dL]
 | b::d::l,a=>by
  have aa:=lB (d::l) a;rw[if_neg (by simp)] at aa;rw[if_neg (by simp)];show dL (b::d::(l++[a]))=_
  simp only[dL];rw[Ip] at aa;rw[aa];simp
theorem p5{aJ:List cW}{a:cW}(h:aJ[k]?=some a):iz (aJ.take (k+1))=iz (aJ.take k)++((if 0<k then [44,32] else [])++nF a):=by
 have ap:k<aJ.length:=(List.getElem?_eq_some_iff.1 h).1;unfold iz nF;rw[List.take_add_one,h,Ig];show (40:UInt8)::aR (dL (List.map fb (List.take k aJ)++[fb a]))=_
 rw[lB];by_cases h0:0<k
 .rw[if_neg (by intro e;have:=congrArg List.length e;simp only[Ib,List.length_take,Iu] at this;omega),if_pos h0,a1,aY,aY];simp[Atom.bytes]
 .obtain rfl:k=0:=ad;simp[dL,aR]
theorem wQ(aJ:List cW)(k:Nat):(iz (aJ.take k)).length<=(iz (aJ.take (k+1))).length:=by
 cases h:aJ[k]? with
 | none=>rw[Ih (i:=k+1) (by have:=List.getElem?_eq_none_iff.1 h;omega),Ih (List.getElem?_eq_none_iff.1 h)];exact Hx _
 | some a=>rw[p5 h];simp
theorem vP(aJ:List cW):∀j k:Nat,(iz (aJ.take k)).length<=(iz (aJ.take (k+j))).length
 | 0,k=>Hx _
 | j+1,k=>Ir (vP aJ j k) (wQ aJ (k+j))
theorem r9(aJ:List cW)(ap:k<=aJ.length):(iz (aJ.take k)).length<=(g6 aJ).length:=by
 have:=vP aJ (aJ.length - k) k;rw[show k+(aJ.length - k)=aJ.length by omega,List.take_length] at this;rw[qK];simp;omega
def Dn:cW->Prop
 | .mx r=>B7 r
 | .ex e=>∃N d,e.src N d
theorem ra(a:cW):(ep a).sz=7:=by
 cases a with
 | mx r=>rfl
 | ex e=>show D.xC [.b false,fJ,a7 e]=7;simp only[D.xC,cY,D.sz,fJ]
theorem dj{d:D}{l:List D}:D.aO w P (d::l) cs↔∃x y,cs=x++y/\d.rep w P x/\D.aO w P l y:=by simp only[D.aO]
theorem CO(h:(ep (.mx r)).rep w P cs):∃s A n c e0 e1 e2 e3,cs=[.bool true,.string s,.slice A n c,e0,e1,e2,e3]/\(j9 r).rep w P [.string s,.slice A n c]:=by
 unfold ep at h;rw[bw,eS] at h;obtain⟨y,rfl,h⟩:=h;obtain⟨x,bp,rfl,hx,a4⟩:=dj.1 h;obtain⟨A,n,c,rfl,hc,hs⟩:=iS.1 hx;rw[D.bo] at a4;obtain⟨A2,c2,rfl⟩:=eP.1 a4;exact⟨_,A,n,c,_,_,_,_,rfl,hx⟩
namespace zr
theorem tJ(h:p:=by
 obtain⟨A,n,c,a5,rfl,_,_,bi⟩:=aA.1 hx;rw[aM] at bi;subst bi;exact x2
 ):p:=h
end zr
open zr in
theorem CN{e:VE}(h:(ep (.ex e)).rep w P cs):∃bD r1 op n s A m c,cs=[.bool false,bD,r1,.int .i64 op,.int .i64 n,.string s,.slice A m c]/\(a7 e).rep w P [.int .i64 op,.int .i64 n,.string s,.slice A m c]:=by
 exact tI
theorem q2(aJ:List cW)(ao:∀a∈aJ,Dn a)(A:IP)(n c:Nat)(w:World)(hs:Sl w (av w) A n (aJ.map ep))(hlen:(g6 aJ).length<=262144)(hn:n<=1000) :
  Calls prog 118 #[.slice A n c] w λe ab=>e=.returned (.string (strOf (g6 aJ)))/\Ext w ab:=by
 have hl:aJ.length=n:=by rw[<-hs.1,Ib]
 obtain⟨bL,bs,u,F⟩:=ih hl hs ao hlen;clear hs ao hlen hl;go_enter func118,ntmps118;go_wp2;go_loopw [3,4] (λsv ah wr=>∃k:Nat,k<=n/\ah=.int .i64 k/\sv=.string (strOf (iz (aJ.take k)))/\Ext w wr) (λ_ ah _=>n - (intOf ah).toNat)
 case atStart=>exact⟨0,ad,rfl,rfl,IK⟩
 case round=>
  obtain⟨k,ap,rfl,rfl,aw⟩:=hrel;have bf:=ae aw;clear aw;have bi:(strOf (iz (aJ.take k))).size<=262144:=by
   rw[aK];exact Ir (r9 aJ (by rw[bL.o];exact ap)) F.o
  by_cases al:k<n
  .obtain⟨b,o,a,cs,rfl,O,I,L,bd,Z⟩:=(bs.on (Fr.ext bf.o)).gH ra al;have aX:b<wr.heap.size:=O;have HA:=ae I;have i:=ae (p5 I);have ct:=ae (u.o a (Ia I));have cr:(nF a).length<=262144:=by
    have ac:=r9 aJ (k:=k+1) (by rw[bL.o];exact al);rw[i.o] at ac;have J:=F.o;simp at ac;omega
   have f:=ae cr;have bu:(strOf (nF a)).size<=262144:=by rw[aK];exact cr
   clear I cr O
   cases a with
   | mx r=>
    obtain⟨s,ce,bO,rc,e0,e1,e2,e3,rfl,U⟩:=CO L;have c0:=Z 0 _ rfl;have c1:=Z 1 _ rfl;have c2:=Z 2 _ rfl;simp only[Ij] at c0;have H:=ae U;clear Z L U;have l:=ae (show nF (.mx r)=[109,117,116,101,120,32]++fI r by
     unfold nF fb fI;rw[aY,aY];simp[kw,fx,Atom.bytes])
    have t:(fI r).length<=262144:=by
     have:=f.o;rw[l.o] at this;simp at this;omega
    have j:=ae t;have z:(strOf (fI r)).size<=262144:=by rw[aK];exact t
    clear t;by_cases h0:0<k
    ·
     have q:decide ((k:Int) > 0)=true:=by simp;omega
     have aP:=ae (show strOf (iz (aJ.take k))++⟨#[44,32]⟩++⟨#[109,117,116,101,120,32]⟩++strOf (fI r)=strOf (iz (aJ.take (k+1))) by
      rw[i.o,if_pos h0,l.o,show (⟨#[44,32]⟩:ByteArray)=strOf [44,32] from rfl,show (⟨#[109,117,116,101,120,32]⟩:ByteArray)=strOf [109,117,116,101,120,32] from rfl,ag,ag,ag]
      try simp)
     go_wp2_with(fail);refine(kk r ct.o s ce bO rc wr H.o j.o).mono ?_;rintro e aO ⟨rfl,ar⟩;have bh:=ae (bf.trans ar);clear ar c0 c1 c2 bf;exact vE
    ·
     have q:decide ((k:Int) > 0)=false:=by simp;omega
     have aP:=ae (show strOf (iz (aJ.take k))++⟨#[109,117,116,101,120,32]⟩++strOf (fI r)=strOf (iz (aJ.take (k+1))) by
      rw[i.o,if_neg h0,l.o,show (⟨#[109,117,116,101,120,32]⟩:ByteArray)=strOf [109,117,116,101,120,32] from rfl,ag,ag]
      try simp)
     go_wp2_with(fail);refine(kk r ct.o s ce bO rc wr H.o j.o).mono ?_;rintro e aO ⟨rfl,ar⟩;have bh:=ae (bf.trans ar);clear ar c0 c1 c2 bf
     exact vE
   | ex x=>
    obtain⟨bD,r1,op,bH,s,EA,em,ec,rfl,g⟩:=CN L;have c0:=Z 0 _ rfl;have c1:=Z 3 _ rfl;have c2:=Z 4 _ rfl;have c3:=Z 5 _ rfl;have v:=Z 6 _ rfl;simp only[Ij] at c0;have m:=ae g;have z:(strOf (bM x)).size<=262144:=bu;obtain⟨N,d,hx⟩:=ct.o;have aV:=ae (ji N d x hx);clear Z L g hx ct;by_cases h0:0<k
    ·
     have q:decide ((k:Int) > 0)=true:=by simp;omega
     have aP:=ae (show strOf (iz (aJ.take k))++⟨#[44,32]⟩++strOf (bM x)=strOf (iz (aJ.take (k+1))) by
      rw[i.o,show nF (.ex x)=bM x from rfl,if_pos h0,show (⟨#[44,32]⟩:ByteArray)=strOf [44,32] from rfl,ag,ag]
      try simp)
     go_wp2_with(fail);refine(aV.o op bH s EA em ec wr m.o f.o).mono ?_;rintro e aO ⟨rfl,ar⟩;have bh:=ae (bf.trans ar);clear ar c0 c1 c2 c3 v bf;exact vE
    ·
     have q:decide ((k:Int) > 0)=false:=by simp;omega
     have aP:=ae (show strOf (iz (aJ.take k))++strOf (bM x)=strOf (iz (aJ.take (k+1))) by
      rw[i.o,show nF (.ex x)=bM x from rfl,if_neg h0,ag]
      try simp)
     go_wp2_with(fail);refine(aV.o op bH s EA em ec wr m.o f.o).mono ?_;rintro e aO ⟨rfl,ar⟩;have bh:=ae (bf.trans ar);clear ar c0 c1 c2 c3 v bf;exact vE
  .obtain rfl:k=n:=ad;have aP:=ae (show strOf (iz (aJ.take k))++⟨#[41]⟩=strOf (g6 aJ) by
    rw[qK,<-bL.o,List.take_length,<-ag];rfl)
   go_wp2;go_ret;exact⟨ret_str aP.o,bf.o⟩
inductive ay where
 | set (v:Bool) (n:ByteArray) (e:VE)
 | call (g:Bool) (n:ByteArray) (aJ:List cW)
 | lock (u:Bool) (r:eC)
 | ite (e:VE) (th el:ak)
 | fY (e:VE) (th:ak)
 | ret
def ak.list:ak->List ay
 | .nil=>[]
 | .set v n e rest=>.set v n e::rest.list
 | .call g n aJ rest=>.call g n aJ::rest.list
 | .lock u r rest=>.lock u r::rest.list
 | .ite e th el rest=>.ite e th el::rest.list
 | .fY e th rest=>.fY e th::rest.list
 | .ret rest=>.ret::rest.list
def a3:ay->D
 | .set v n e=>gi (if v then 1 else 2) n (a7 e) fJ [] [] []
 | .call g n aJ=>gi (if g then 4 else 3) n jl fJ (aJ.map ep) [] []
 | .lock u r=>gi (if u then 6 else 5) ⟨#[]⟩ jl (j9 r) [] [] []
 | .ite e th el=>gi 7 ⟨#[]⟩ (a7 e) fJ [] (cL th) (cL el)
 | .fY e th=>gi 8 ⟨#[]⟩ (a7 e) fJ [] (cL th) []
 | .ret=>gi 9 ⟨#[]⟩ jl fJ [] [] []
theorem ct:∀b:ak,cL b=b.list.map a3
 | .nil=>rfl
 | .set v n e rest=>by simp only[cL,ak.list,Ie,a3,ct rest]
 | .call g n aJ rest=>by simp only[cL,ak.list,Ie,a3,ct rest]
 | .lock u r rest=>by simp only[cL,ak.list,Ie,a3,ct rest]
 | .ite e th el rest=>by simp only[cL,ak.list,Ie,a3,ct rest]
 | .fY e th rest=>by simp only[cL,ak.list,Ie,a3,ct rest]
 | .ret rest=>by simp only[cL,ak.list,Ie,a3,ct rest]
def db(t:Nat):ay->List UInt8
 | .set v n e=>List.replicate t 9++((if v then [118,97,114,32] else [])++(n.data.toList++([32,61,32]++(bM e++[59,10]))))
 | .call g n aJ=>List.replicate t 9++((if g then [103,111,32] else [])++(n.data.toList++(g6 aJ++[59,10])))
 | .lock u r=>List.replicate t 9++((if u then [117,110,108,111,99,107,32] else [108,111,99,107,32])++(fI r++[59,10]))
 | .ite e th el=>List.replicate t 9++([105,102,32]++(bM e++([32,123,10]++(aR (aS (t+1) th)++(List.replicate t 9++([125] ++
   ((if el.isNil then [] else [32,101,108,115,101,32,123,10]++(aR (aS (t+1) el)++(List.replicate t 9++[125])))++[10])))))))
 | .fY e th=>List.replicate t 9++([119,104,105,108,101,32]++(bM e++([32,123,10]++(aR (aS (t+1) th)++(List.replicate t 9++[125,10])))))
 | .ret=>List.replicate t 9++[114,101,116,117,114,110,59,10]
def cn(t:Nat)(b:ak):List UInt8:=aR (aS t b)
theorem fi(t:Nat):aR (e4 t)=List.replicate t 9:=by
 induction t with
 | zero=>rfl
 | succ t aa=>unfold e4 at *;rw[List.replicate_succ,aY,aa];rfl
theorem qa:aR []=[]:=rfl
theorem eE(t:Nat):∀b:ak,cn t b=(b.list.map (db t)).flatten
 | .nil=>rfl
 | .set v n e rest=>by
  have aa:=eE t rest;unfold cn at *;simp only[aS,ak.list,Ie,List.flatten_cons,<-aa,db,a1,aY,fi,bM]
  cases v<;>simp[Atom.bytes,kw,aR]
 | .call g n aJ rest=>by
  have aa:=eE t rest;unfold cn at *;simp only[aS,ak.list,Ie,List.flatten_cons,<-aa,db,a1,aY,fi,g6]
  cases g<;>simp[Atom.bytes,kw,aR]
 | .lock u r rest=>by
  have aa:=eE t rest;unfold cn at *;simp only[aS,ak.list,Ie,List.flatten_cons,<-aa,db,a1,aY,fi,fI]
  cases u<;>simp[Atom.bytes,kw,aR]
 | .ite e th el rest=>by
  have aa:=eE t rest;unfold cn at *;simp only[aS,ak.list,Ie,List.flatten_cons,<-aa,db,a1,aY,fi,bM];cases hn:el.isNil
  .simp only[II,if_false,a1,aY,fi];simp[Atom.bytes,kw,qa]
  .simp only[if_true]
   simp[Atom.bytes,kw,qa]
 | .fY e th rest=>by
  have aa:=eE t rest;unfold cn at *;simp only[aS,ak.list,Ie,List.flatten_cons,<-aa,db,a1,aY,fi,bM]
  simp[Atom.bytes,kw]
 | .ret rest=>by
  have aa:=eE t rest;unfold cn at *;simp only[aS,ak.list,Ie,List.flatten_cons,<-aa,db,a1,aY,fi];simp[Atom.bytes,kw]
def ay.kind:ay->Int
 | .set v _ _=>if v then 1 else 2
 | .call g _ _=>if g then 4 else 3
 | .lock u _=>if u then 6 else 5
 | .ite ..=>7
 | .fY ..=>8
 | .ret=>9
def ay.name:ay->ByteArray
 | .set _ n _=>n
 | .call _ n _=>n
 | _=>⟨#[]⟩
def ay.expr:ay->Option VE
 | .set _ _ e=>some e
 | .ite e _ _=>some e
 | .fY e _=>some e
 | _=>none
def ay.ref:ay->Option eC
 | .lock _ r=>some r
 | _=>none
def ay.args:ay->List cW
 | .call _ _ aJ=>aJ
 | _=>[]
def ay.th:ay->ak
 | .ite _ th _=>th
 | .fY _ th=>th
 | _=>.nil
def ay.el:ay->ak
 | .ite _ _ el=>el
 | _=>.nil
def oM:Option eC->D
 | none=>fJ
 | some r=>j9 r
theorem qi(s:ay):a3 s=gi s.kind s.name (nP s.expr) (oM s.ref) (s.args.map ep) (cL s.th) (cL s.el):=by
 cases s<;>rfl
theorem mP(s:ay):(a3 s).sz=11:=by
 rw[qi];have ac:(nP s.expr).sz=4:=by
  cases s.expr with
  | none=>rfl
  | some x=>exact cY x
 have J:(oM s.ref).sz=2:=by cases s.ref<;>rfl
 unfold gi;simp only[D.sz,D.xC,ac,J]
theorem oN{x:Option VE}(h:(nP x).rep w P cs):∃o n s A m c,cs=[.int .i64 o,.int .i64 n,.string s,.slice A m c]:=by
 cases x with
 | none=>obtain⟨A,c,rfl⟩:=eP.1 h;exact⟨_,_,_,_,_,_,rfl⟩
 | some x=>obtain⟨A,n,c,rfl,_⟩:=aW.1 h;exact⟨_,_,_,_,_,_,rfl⟩
theorem sf{x:Option eC}(h:(oM x).rep w P cs):∃s A m c,cs=[.string s,.slice A m c]:=by
 cases x with
 | none=>
  unfold oM fJ at h;rw[bw,b9] at h;obtain⟨z,rfl,hx⟩:=h;obtain⟨A,n,c,a5,rfl,_,_,bi⟩:=aA.1 hx;rw[aM] at bi;subst bi
  exact⟨_,_,_,_,rfl⟩
 | some x=>obtain⟨A,n,c,rfl,_⟩:=iS.1 h;exact⟨_,_,_,_,rfl⟩
structure FE(w:World)(P:Nat->Prop)(s:ay)(eo en:Int)(es:ByteArray)(EA:IP)(em ec:Nat)(rs:ByteArray)(ce:IP)(cX rc:Nat)(cF:IP)(n1:Nat)(A2:IP)(cd:Nat)(cl:IP)(bY:Nat):Prop where
 expr:(nP s.expr).rep w P [.int .i64 eo,.int .i64 en,.string es,.slice EA em ec]
 ref:(oM s.ref).rep w P [.string rs,.slice ce cX rc]
 args:Sl w P cF n1 (s.args.map ep)
 th:Sl w P A2 cd (cL s.th)
 el:Sl w P cl bY (cL s.el)
theorem kT{s:ay}(h:(a3 s).rep w P cs):∃eo en es EA em ec rs ce cX rc cF n1 c1 A2 cd c2 cl bY c3,
  cs=[.int .i64 s.kind,.string s.name,.int .i64 eo,.int .i64 en,.string es,.slice EA em ec,.string rs,.slice ce cX rc,.slice cF n1 c1,.slice A2 cd c2,.slice cl bY c3]/\
  FE w P s eo en es EA em ec rs ce cX rc cF n1 A2 cd cl bY:=by
 rw[qi] at h;unfold gi at h;rw[bw,a2] at h;obtain⟨y,rfl,h⟩:=h;rw[b9] at h;obtain⟨bp,rfl,h⟩:=h;obtain⟨F,aJ,rfl,he,h⟩:=dj.1 h;obtain⟨b,G,rfl,aY,h⟩:=dj.1 h;obtain⟨cF,n1,c1,a,rfl,_,ac,h⟩:=aA.1 h;obtain⟨A2,cd,c2,d,rfl,_,J,h⟩:=aA.1 h;obtain⟨cl,bY,c3,e,rfl,_,aR,h⟩:=aA.1 h;rw[aM] at h;subst h;obtain⟨o,n,s,A,m,c,rfl⟩:=oN he;obtain⟨bP,aE,b0,L,rfl⟩:=sf aY
 iterate 19 apply Exists.intro
 exact⟨rfl,he,aY,ac,J,aR⟩
def m4:ak->Prop
 | .nil=>True
 | .set _ _ e rest=>(∃N d,e.src N d)/\m4 rest
 | .call _ _ aJ rest=>((∀a∈aJ,Dn a)/\aJ.length<=1000)/\m4 rest
 | .lock _ r rest=>B7 r/\m4 rest
 | .ite e th el rest=>(∃N d,e.src N d)/\m4 th/\m4 el/\m4 rest
 | .fY e th rest=>(∃N d,e.src N d)/\m4 th/\m4 rest
 | .ret rest=>m4 rest
def gU(b:ak):Prop:=∀(t:Nat) (A:IP) (n c:Nat) (w:World),t+b.num<=1000000->Sl w (av w) A n (cL b)->(cn t b).length<=262144->
 Calls prog 90 #[.slice A n c,.string (strOf (List.replicate t 9))] w λe ab=>e=.returned (.string (strOf (cn t b)))/\Ext w ab
structure tw(s:ay)(N:Nat):Prop where
 expr:∀e,s.expr=some e->∃N d,e.src N d
 ref:∀r,s.ref=some r->B7 r
 args:∀a∈s.args,Dn a
 hW:s.args.length<=1000
 th:gU s.th
 el:gU s.el
 E2:s.th.num<N\/s.th=.nil
 E1:s.el.num<N\/s.el=.nil
theorem gK{α:Type}{x:α}(h:(none:Option α)=some x):p:=by cases h
theorem GW(f:∀b:ak,(∀s∈b.list,tw s b.num)->gU b):∀b:ak,m4 b->gU b/\∀s∈b.list,tw s b.num:=by
 have mono:∀{s:ay} {n m:Nat},n<=m->tw s n->tw s m:=λh k=>⟨k.expr,k.ref,k.args,k.hW,k.th,k.el,k.E2.imp (λx=>Hy x h) id,k.E1.imp (λx=>Hy x h) id⟩
 have c:gU .nil:=f .nil λs hs=>by simp[ak.list] at hs
 have fin:∀b:ak,(∀s∈b.list,tw s b.num)->gU b/\∀s∈b.list,tw s b.num:=λb h=>⟨f b h,h⟩
 intro b
 induction b with
 | nil=>exact λ_=>fin _ λs hs=>by simp[ak.list] at hs
 | set v n e rest aa=>
  intro h;refine fin _ λs hs=>?_;rcases Iq.1 hs with rfl|hs
  .exact⟨λl he=>(by cases he;exact h.1),λr aY=>gK aY,λa I=>(nomatch I),by simp[ay.args],c,c,.inr rfl,.inr rfl⟩
  .exact mono (by simp[ak.num]) ((aa h.2).2 s hs)
 | call g n aJ rest aa=>
  intro h;refine fin _ λs hs=>?_;rcases Iq.1 hs with rfl|hs
  .exact⟨λl he=>gK he,λr aY=>gK aY,h.1.1,h.1.2,c,c,.inr rfl,.inr rfl⟩
  .exact mono (by simp[ak.num]) ((aa h.2).2 s hs)
 | lock u r rest aa=>
  intro h;refine fin _ λs hs=>?_;rcases Iq.1 hs with rfl|hs
  .exact⟨λl he=>gK he,λd aY=>(by cases aY;exact h.1),λa I=>(nomatch I),by simp[ay.args],c,c,.inr rfl,.inr rfl⟩
  .exact mono (by simp[ak.num]) ((aa h.2).2 s hs)
 | ite e th el rest j o aa=>
  intro h;refine fin _ λs hs=>?_;rcases Iq.1 hs with rfl|hs
  .exact⟨λl he=>(by cases he;exact h.1),λr aY=>gK aY,λa I=>(nomatch I),by simp[ay.args],(j h.2.1).1,(o h.2.2.1).1,.inl (by simp[ay.th,ak.num];omega),.inl (by simp[ay.el,ak.num];omega)⟩
  .exact mono (by simp[ak.num];omega) ((aa h.2.2.2).2 s hs)
 | fY e th rest j aa=>
  intro h;refine fin _ λs hs=>?_;rcases Iq.1 hs with rfl|hs
  .exact⟨λl he=>(by cases he;exact h.1),λr aY=>gK aY,λa I=>(nomatch I),by simp[ay.args],(j h.2.1).1,c,.inl (by simp[ay.th,ak.num];omega),.inr rfl⟩
  .exact mono (by simp[ak.num];omega) ((aa h.2.2).2 s hs)
 | ret rest aa=>
  intro h;refine fin _ λs hs=>?_;rcases Iq.1 hs with rfl|hs
  .exact⟨λl he=>gK he,λr aY=>gK aY,λa I=>(nomatch I),by simp[ay.args],c,c,.inr rfl,.inr rfl⟩
  .exact mono (by simp[ak.num]) ((aa h).2 s hs)
end Go.Proofs.YtajlmkkidmjgoaaGreatDoor
