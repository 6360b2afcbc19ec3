/- Part 11 of the proof. No condition of its own. -/
import Derived.Test.YtglbpimocmhojaaGreatQ07
import Derived.Test.YtglbpimocmhojaaGreatQ10
namespace Go.Proofs.YtglbpimocmhojaaGreat
open Go.RowKit Go.Proofs.Tryz
set_option maxRecDepth 1000000
set_option maxHeartbeats 25600000
set_option linter.unusedVariables false
variable{op:Int}{l:List UInt8}{cs:List Value}{B N base g k m n:Nat}{M P:Nat->Prop}{p:Prop}{e t:TypeId}{x y:VE}{ab w:World}{r:eO}
def byteOf(v:Int):UInt8:=UInt8.ofNat v.toNat
theorem kO(W:World)(v:Int):(convert 127 9 (.slice (some ⟨W.heap.size,0,none⟩) 1 1)).run prog (W.alloc (.cells #[.int .u8 v] 5))=.ok (.string (strOf [byteOf v])) (W.alloc (.cells #[.int .u8 v] 5)):=by
 have:=run_convert_bytes_arg (P:=prog) (W.alloc (.cells #[.int .u8 v] 5)) 127 5 Tryz.underlying127 Tryz.underlying5 W.heap.size 0 1 1 [v] rfl (λi an=>by
  have:i=0:=ad;subst this;rw[(aq.new W 5 #[.int .u8 v]).cell];rfl) 9 Tryz.underlying9
 rw[this];rfl
theorem aO(l:List UInt8):(strOf l).size=l.length:=by simp[strOf,ByteArray.size]
theorem px(m:Nat):byteOf (48+((m:Int) % 10))=UInt8.ofNat (48+m % 10):=by
 unfold byteOf;congr 1
theorem ret_str{a b:ByteArray}(h:a=b):Ending.returned (.string a)=.returned (.string b):=by rw[h]
theorem ag(a b:List UInt8):strOf a++strOf b=strOf (a++b):=by
 unfold strOf;rw[ByteArray.ext_iff];simp
def jb(N m:Nat)(l:List UInt8):Prop:=jr N=(if m=0 then [] else jr m)++l
theorem ri(N:Nat):jb N (N / 10) [UInt8.ofNat (48+N % 10)]:=by
 unfold jb;rw[jr];split
 .rename_i h;rw[if_pos ad,show N % 10=N by omega];rfl
 .rw[if_neg ad]
theorem Di(h:jb N m l)(hm:0<m):jb N (m / 10) (UInt8.ofNat (48+m % 10)::l):=by
 unfold jb at *;rw[if_neg ad] at h;rw[h];have:=ri m;unfold jb at this;rw[this];simp
theorem EW(h:jb N m l)(hN:N<=9223372036854775808):l.length<=20:=by
 have:=js 19 N ad;unfold jb at h;rw[h,KF] at this;omega
theorem pA(N:Nat)(w:World)(hN:N<=9223372036854775808) :
  Calls prog 147 #[.int .u64 N] w λe ab=>e=.returned (.string (strOf (jr N)))/\Below w.heap.size w ab:=by
 have kc:=kO w;go_enter func147,ntmps147;go_wp2;go_loopw [0,3] (λa sv wr=>∃(m:Nat) (l:List UInt8),a=.int .u64 m/\sv=.string (strOf l)/\m<=N/\jb N m l/\Below w.heap.size w wr) (λa _ _=>(intOf a).toNat)
 case atStart=>exact⟨N / 10,[byteOf (48+(N:Int) % 10)],by simp,rfl,ad,by rw[px];exact ri N,(Below.refl _ _).alloc (KD _) _⟩
 case round=>
  obtain⟨m,l,rfl,rfl,hm,a5,O⟩:=hrel;obtain⟨aW,b1⟩:=aH a5 O;have hl:=EW a5 hN;clear a5 O kc;have kc:=kO wr;by_cases h0:0<m
  .have q:decide ((m:Int) > 0)=true:=by simp;omega
   have ar:decide (m > 0)=true:=by simp;omega
   have bt:(strOf l).size<=20:=by rw[aO];omega
   have bD:(strOf [byteOf (48+(m:Int) % 10)]).size<=1:=by rw[aO];simp
   go_wp2;go_roundw
   case rel=>exact⟨m / 10,byteOf (48+(m:Int) % 10)::l,by simp,by rw[ag];rfl,ad,by rw[px];exact Di aW.o h0,b1.alloc b1.size _⟩
   case measure=>exact aG
  .have bB:m=0:=ad;have bq:=ae (show jr N=l by have:=aW.o;unfold jb at this;rw[if_pos bB] at this;simpa using this);have q:decide ((m:Int) > 0)=false:=by simp;omega
   clear bB;go_wp2;go_ret;exact⟨ret_str (by rw[bq.o]),b1.o⟩
def lA(n:Int):List UInt8:=aU (hB n)
theorem yK{n:Int}(h:n<0):lA n=45::jr n.natAbs:=by unfold lA hB;rw[if_pos h];simp[aU,Atom.bytes]
theorem uP{n:Int}(h:0<=n):lA n=jr n.toNat:=by unfold lA hB;rw[if_neg ad];simp[aU,Atom.bytes]
theorem l1(n:Int)(w:World)(h:-9223372036854775808<=n/\n<=9223372036854775807) :
  Calls prog 132 #[.int .i64 n] w λe ab=>e=.returned (.string (strOf (lA n)))/\Below w.heap.size w ab:=by
 by_cases hn:n<0
 .obtain⟨m,rfl⟩:∃m:Nat,n = -((m:Int)+1):=⟨(-(n+1)).toNat,ad⟩
  have hm:m<=9223372036854775807:=ad;have aa:=ae (yK hn);clear hn h;go_enter func132,ntmps132;go_wp2_with(fail);rw[show (-(-((m:Int)+1)+1)+1)=((m+1:Nat):Int) by omega];refine(pA (m+1) w ad).mono ?_;rintro e ab ⟨rfl,O⟩;have b1:=ae O;clear O;have bt:(strOf (jr (m+1))).size<=20:=by rw[aO];exact js 19 _ ad
  go_wp2;go_ret;exact⟨ret_str (by rw[aa.o,show (-((m:Int)+1)).natAbs=m+1 by omega];exact ag [45] _),b1.o⟩
 .obtain⟨m,rfl⟩:=KI (show 0<=n by omega);have aa:=ae (uP (n:=(m:Int)) ad);clear hn;go_enter func132,ntmps132;go_wp2_with(fail);refine(pA m w ad).mono ?_;rintro e ab ⟨rfl,O⟩;have b1:=ae O;clear O;go_wp2;go_ret;exact⟨ret_str (by rw[aa.o,KY]),b1.o⟩
def mQ:Nat->List (List UInt8×Int)
 | 0=>[([124,124],17)]
 | 1=>[([38,38],16)]
 | 2=>[([61,61],14),([33,61],15),([60],10),([60,61],11),([62],12),([62,61],13)]
 | 3=>[([43],8),([45],9)]
 | _=>[([42],5),([47],6),([37],7)]
def HD(k:Nat):List ByteArray:=(mQ k).map λp=>strOf p.1
def nD(k:Nat):List Int:=(mQ k).map (·.2)
theorem Eg{cs:Array Value}{l:List Int}(h:aq w g t cs)(hc:cs=(l.map (Value.int .i64)).toArray)(hl:l.length=n)(aR:g<B):cx (EF cT) 1 w B (some ⟨g,0,none⟩) n l:=by
 subst hc;refine⟨hl,λ_=>⟨g,0,rfl,aR,λk x hx=>⟨cT x,rfl,rfl,λj v bi=>?_⟩⟩⟩;have dH:j=0/\v=.int .i64 x:=by
  cases j with
  | zero=>simp[cT] at bi;exact⟨rfl,bi.symm⟩
  | succ j=>simp[cT] at bi
 obtain⟨rfl,rfl⟩:=dH;rw[h.cell];simp[hx]
theorem Eh{cs:Array Value}{l:Lq}(h:aq w g t cs)(hc:cs=(l.map Value.string).toArray)(hl:l.length=n)(aR:g<B):cx (EF oh) 1 w B (some ⟨g,0,none⟩) n l:=by
 subst hc;refine⟨hl,λ_=>⟨g,0,rfl,aR,λk x hx=>⟨oh x,rfl,rfl,λj v bi=>?_⟩⟩⟩;have dH:j=0/\v=.string x:=by
  exact zq
 obtain⟨rfl,rfl⟩:=dH;rw[h.cell];simp[hx]
def yY(w:World)(k:Nat)(e:Ending)(ab:World):Prop:=
 ∃A B n,n<=6/\e=.returned (.tuple #[.slice A n n,.slice B n n])/\cx (EF oh) 1 ab ab.heap.size A n (HD k)/\cx (EF cT) 1 ab ab.heap.size B n (nD k)/\Ext w ab
theorem rN(k:Nat)(ap:k<=4)(w:World):Calls prog 159 #[.int .i64 k] w (yY w k):=by
 obtain rfl|rfl|rfl|rfl|rfl:k=0\/k=1\/k=2\/k=3\/k=4:=ad
 all_goals
  clear ap;go_enter func159,ntmps159;go_wp2
  go_ret2
  generalize ba:World.alloc (World.alloc w _) _=W;refine⟨some ⟨w.heap.size,0,none⟩,some ⟨w.heap.size+1,0,none⟩,_,by decide,rfl,Eh (t:=9) (cs:=((HD _).map Value.string).toArray) ?_ rfl rfl ?_,Eg (t:=3) (cs:=((nD _).map (Value.int .i64)).toArray) ?_ rfl rfl ?_,?_⟩
  .rw[<-ba];exact(Lm).alloc _
  .rw[<-ba];simp;omega
  .rw[<-ba];exact aq.gz _ _ _ (by simp)
  .rw[<-ba];simp
  .rw[<-ba];exact(Ll.alloc _).alloc _
theorem EP(ap:k<=4)(h:op∈nD k):cW op=k:=by
 obtain rfl|rfl|rfl|rfl|rfl:k=0\/k=1\/k=2\/k=3\/k=4:=ad
 all_goals
  simp[nD,mQ] at h;unfold cW
  repeat' split
  all_goals omega
theorem Da(h:∀k:Nat,k<5->op∉nD k):cW op=if op=3\/op=4 then 5 else 6:=by
 have h0:=h 0 ad;have ac:=h 1 ad;have au:=h 2 ad;have aU:=h 3 ad;have bE:=h 4 ad;simp[nD,mQ] at h0 ac au aU bE;unfold cW;rw[if_neg ad,if_neg ad,if_neg ad,if_neg ad,if_neg ad]
theorem gq(op:Int)(w:World):Calls prog 157 #[.int .i64 op] w λe ab=>e=.returned (.int .i64 (cW op))/\Ext w ab:=by
 go_enter func157,ntmps157;go_wp2;go_loopw [3] (λbd wr=>∃k:Nat,k<=5/\bd=.int .i64 k/\(∀i:Nat,i<k->op∉nD i)/\Ext w wr) (λbd _=>6 - (intOf bd).toNat)
 case atStart=>exact⟨0,ad,rfl,λi h=>ad,Ll⟩
 case round=>
  obtain⟨k,ap,rfl,bQ,O⟩:=hrel;obtain⟨b1,b4⟩:=aH O bQ;clear O bQ;by_cases ak:k<5
  .have q:decide ((k:Int)<5)=true:=by simp;omega
   go_wp2_with(fail);refine(rN k ad _).mono ?_;rintro e aT ⟨A,B,n,hn,rfl,hs,bn,he⟩;have bM:=ah bn he;clear hs bn he;go_wp2_with(fail)
   go_loop [6] (λcu=>∃j:Nat,j<=n/\cu=.int .i64 j/\∀(i:Nat) (x:Int),i<j->(nD k)[i]?=some x->x≠op) (λcu=>n - (intOf cu).toNat)
   case atStart=>exact⟨0,ad,rfl,λi x h=>ad⟩
   case round=>
    obtain⟨j,bi,rfl,be⟩:=hrel;have bq:=ae be;clear be;by_cases G:j<n
    .obtain⟨b,o,x,rfl,U,hx,hc⟩:=bM.1.int G;have aQ:=ae hx;clear hx;by_cases qL:x=op
     .have q1:(x == op)=true:=by simpa using qL
      have aW:=ae (EP (op:=op) (k:=k) ad (by rw[<-qL];exact KG aQ.o));clear qL;go_wp2;go_ret;exact⟨ret_int aW.symm,b1.trans bM.2⟩
     .have q1:(x == op)=false:=by simpa using qL
      have S:=ae qL;clear qL;go_wp2
      go_round
      case rel=>exact⟨j+1,ad,by go_num,λi y an bb=>by
       by_cases J:i=j
       .subst J;rw[aQ.o] at bb;injection bb with bb;subst bb;exact S.o
       .exact bq.o i y ad bb⟩
      case measure=>exact aG
    .have c:j=n:=ad;have c5:=ae (show op∉nD k from λhm=>by
      obtain⟨i,an⟩:=List.getElem?_of_mem hm;have ak:=(List.getElem?_eq_some_iff.1 an).1;have hl:=bM.1.1;exact bq.o i op ad an rfl)
     have cI:decide ((j:Int)<(n:Int))=false:=by simp;omega
     clear c;go_wp2;go_roundw
     case rel=>exact⟨k+1,ad,by go_num,λi an=>by
      by_cases bK:i=k
      .subst bK;exact c5.o
      .exact b4.o i ad,b1.trans bM.2⟩
     case measure=>exact aG
  .have aL:k=5:=ad;have aW:=ae (Da (op:=op) (λi an=>b4.o i ad));subst aL;by_cases aU:op=3\/op=4
   .have r:=ae (aW.trans (if_pos aU));rcases aU with rfl|rfl
    all_goals
     go_wp2;go_ret;exact⟨ret_int r.symm,b1.o⟩
   .have r:=ae (aW.trans (if_neg aU));have dd:(op == 3)=false:=by simp;omega
    have df:(op == 4)=false:=by simp;omega
    clear aU;go_wp2;go_ret;exact⟨ret_int r.symm,b1.o⟩
theorem Fi(x:VE):x.a9=a9 x:=by cases x<;>rfl
theorem rz(op n M:Int)(nm:ByteArray)(b o m c:Nat)(k:Nat)(w:World)(ap:k<=1)(L:k<m)(O:b<w.heap.size)(hc:w.cell? ⟨b,o+k*4,none⟩=some (.int .i64 M)) :
  Calls prog 158 #[.agg #[.int .i64 op,.int .i64 n,.string nm,.slice (some ⟨b,o,none⟩) m c],.int .i64 k] w λe ab=>e=.returned (.bool (dC op M (k == 1)))/\Ext w ab:=by
 have dh:(0:Int)<=(k:Int):=ad;have cv:(k:Int)<(m:Int):=ad;go_enter func158,ntmps158;go_wp2;generalize ba:World.alloc _ _=W;have aw:=aX ba;obtain⟨a0,ai,af⟩:=(show aq W w.heap.size 53 #[.int .i64 op,.int .i64 n,.string nm,.slice (some ⟨b,o,none⟩) m c] by rw[<-ba];exact Lm).two;have a3:=(aw.cell (j:=o+k*4) O (λh=>h)).trans hc;have f:b<W.heap.size:=KE O aw.size;have bq:=ae aw;clear ba aw hc;refine eK (λ_=>False) [(0,3),(1,0),(2,3),(3,3),(4,3),(5,0),(7,3),(8,0),(6,1),(9,2),(10,3),(11,3)] ?_;refine pf ?_;refine ph ?_
 iterate 3 refine pf ?_
 refine ph ?_;refine pf ?_;refine ph ?_;refine aI rfl (λK hK=>?_);go_simp;refine(gq M _).mono ?_;rintro e aS ⟨rfl,ar⟩;refine dz hK (ar) ?_;clear hK K;have bu:=ae (bq.trans (Fr.aF ar));clear ar;refine ax rfl (λK hK=>?_);go_simp;refine(gq op _).mono ?_;rintro e aT ⟨rfl,bw⟩;refine dO hK ?_;clear hK K;have a4:=ae (bu.trans bw);clear bw a0 ai af a3
 iterate 2 refine pf ?_
 refine aE ?_;have b1:=ae (show dC op M (k == 1)=(decide (cW M<cW op) || (cW M == cW op && k == 1)) from rfl);generalize cW M=x at *;generalize cW op=y at *;by_cases ac:x<y
 .have aW:=ae (show dC op M (k == 1)=true by rw[b1.o];simp[ac]);clear b1;exact r6
 have q1:decide (x<y)=false:=by simpa using ac
 by_cases au:x=y
 .have cI:(x == y)=true:=by simpa using au
  by_cases aU:k=1
  .have aW:=ae (show dC op M (k == 1)=true by rw[b1.o];simp[au,aU]);have dd:((k:Int) == 1)=true:=by simp;omega
   have a:(k == 1)=true:=by simp;omega
   clear b1 ac au aU;exact r6
  .have aW:=ae (show dC op M (k == 1)=false by rw[b1.o];simp[au,aU]);have dd:((k:Int) == 1)=false:=by simp;omega
   have a:(k == 1)=false:=by simp;omega
   clear b1 ac au aU;exact r6
 .have cI:(x == y)=false:=by simpa using au
  have aW:=ae (show dC op M (k == 1)=false by rw[b1.o];simp[ac,au]);clear b1 ac au;exact r6
theorem kq:ch prog 130 9 (.string ⟨#[]⟩) 1 16:=ch.mk' Tryz.underlying130 (by kernel_rfl) rfl ad
def bW(x:VE):List UInt8:=aU (cn x)
def gx(op:Int)(k:Nat)(y:VE):List UInt8:=aU (par (dC op (a9 y) (k == 1)) (cn y))
def gD:VE->List (List UInt8)
 | .un op x=>[gx op 0 x]
 | .bin op x y=>[gx op 0 x,gx op 1 y]
 | _=>[]
theorem xl(op:Int)(k:Nat)(y:VE):gx op k y=if dC op (a9 y) (k == 1) then 40::(bW y++[41]) else bW y:=by
 unfold gx par bW;split
 .rw[a5,bf];rfl
 .rfl
theorem xm(op:Int)(k:Nat)(y:VE):(bW y).length<=(gx op k y).length:=by
 rw[xl];split<;>simp
 omega
theorem xR(op:Int)(x:VE):bW (.un op x)=(if op=3 then 45 else 33)::gx op 0 x:=by
 unfold bW cn gx;rw[a5];split<;>rfl
theorem uH(op:Int)(x y:VE):bW (.bin op x y)=gx op 0 x++32::(gR op++32::gx op 1 y):=by
 unfold bW cn gx;rw[bf,a5,a5,a5];rfl
theorem kr(x:VE){t:List UInt8}(h:(gD x)[k]?=some t):t.length<=(bW x).length:=by
 cases x with
 | un op x=>
  rw[xR]
  match k,h with
  | 0,h=>simp[gD] at h;subst h;simp
 | bin op x y=>
  rw[uH]
  match k,h with
  | 0,h=>simp[gD] at h;subst h;simp
  | 1,h=>simp[gD] at h;subst h;simp;omega
 | num n=>simp[gD] at h
 | g1 n=>simp[gD] at h
 | loc n=>simp[gD] at h
 | iB n=>simp[gD] at h
theorem mg(x:VE)(h:x.args[k]?=some y):(gD x)[k]?=some (gx x.a9 k y)/\k<=1:=by
 cases x with
 | un op x=>
  match k,h with
  | 0,h=>simp[VE.args] at h;subst h;simp[gD,VE.a9]
 | bin op x y=>
  match k,h with
  | 0,h=>simp[VE.args] at h;subst h;simp[gD,VE.a9]
  | 1,h=>simp[VE.args] at h;subst h;simp[gD,VE.a9]
 | num n=>simp[VE.args] at h
 | g1 n=>simp[VE.args] at h
 | loc n=>simp[VE.args] at h
 | iB n=>simp[VE.args] at h
theorem x1(x:VE):(gD x).length=x.args.length:=by cases x<;>rfl
theorem tv(x:VE):x.args.length<=2:=by cases x<;>simp[VE.args]
theorem qw{N:Lq}{d:Nat}(h:x.src N (d+1))(bb:x.args[k]?=some y):y.src N d:=by
 cases x with
 | un op x=>
  match k,bb with
  | 0,bb=>simp[VE.args] at bb;subst bb;exact h.2
 | bin op x y=>
  match k,bb with
  | 0,bb=>simp[VE.args] at bb;subst bb;exact h.2.1
  | 1,bb=>simp[VE.args] at bb;subst bb;exact h.2.2
 | num n=>simp[VE.args] at bb
 | g1 n=>simp[VE.args] at bb
 | loc n=>simp[VE.args] at bb
 | iB n=>simp[VE.args] at bb
theorem qx{N:Lq}(h:x.src N 0):x.args=[]:=by
 cases x with
 | un op x=>exact h.elim
 | bin op x y=>exact h.elim
 | num n=>rfl
 | g1 n=>rfl
 | loc n=>rfl
 | iB n=>rfl
theorem FC{i:Nat}(h:5<=op/\op<=17)(an:(nD (cW op).toNat)[i]?=some op):(HD (cW op).toNat)[i]?=some (strOf (gR op)):=by
 obtain⟨ac,au⟩:=h;obtain rfl|rfl|rfl|rfl|rfl|rfl|rfl|rfl|rfl|rfl|rfl|rfl|rfl:op=5\/op=6\/op=7\/op=8\/op=9\/op=10\/op=11\/op=12\/op=13\/op=14\/op=15\/op=16\/op=17:=ad
 all_goals
  match i,an with
  | 0,an=>first|rfl|(exact absurd an (by decide))
  | 1,an=>first|rfl|(exact absurd an (by decide))
  | 2,an=>first|rfl|(exact absurd an (by decide))
  | 3,an=>first|rfl|(exact absurd an (by decide))
  | 4,an=>first|rfl|(exact absurd an (by decide))
  | 5,an=>first|rfl|(exact absurd an (by decide))
  | i+6,an=>simp[nD,mQ,cW] at an
theorem uy(h:5<=op/\op<=17):∃k:Nat,k<=4/\cW op=k/\op∈nD k:=by
 obtain⟨ac,au⟩:=h;obtain rfl|rfl|rfl|rfl|rfl|rfl|rfl|rfl|rfl|rfl|rfl|rfl|rfl:op=5\/op=6\/op=7\/op=8\/op=9\/op=10\/op=11\/op=12\/op=13\/op=14\/op=15\/op=16\/op=17:=ad
 all_goals first|exact⟨0,ad,rfl,by decide⟩|exact⟨1,ad,rfl,by decide⟩|exact⟨2,ad,rfl,by decide⟩|exact⟨3,ad,rfl,by decide⟩|exact⟨4,ad,rfl,by decide⟩
def y0(x:VE):Prop:=∀(op n:Int) (s:ByteArray) (A:Lp) (m c:Nat) (w:World),(bk x).rep w (av w) [.int .i64 op,.int .i64 n,.string s,.slice A m c]->(bW x).length<=262144->
 Calls prog 148 #[.agg #[.int .i64 op,.int .i64 n,.string s,.slice A m c]] w λe ab=>e=.returned (.string (strOf (bW x)))/\Ext w ab
theorem wG{l:List (List UInt8)}{t:List UInt8}(h:l[k]?=some t):(l.take (k+1)).map (λt=>Value.string (strOf t))=(l.take k).map (λt=>Value.string (strOf t))++[Value.string (strOf t)]:=by
 rw[List.take_add_one,h,KK];rfl
theorem Dt(l:Lq):l.flatMap oh=l.map Value.string:=by
 induction l with
 | nil=>rfl
 | cons a l ao=>rw[KX,ao];rfl
theorem yA{A:Lp}{c:Nat}{l:List (List UInt8)}(h:w.ownsRow base e 1 (.slice A n c) n (l.map λt=>Value.string (strOf t)))(hl:l.length=n):cx (EF oh) 1 w w.heap.size A n (l.map strOf):=
 jE (f:=oh) (l:=l.map strOf) (by rw[Dt,List.map_map];exact h) (λ_ _=>rfl) (by rw[KH];exact hl)
structure o2(w wr:World)(x:VE)(A:Lp)(m c:Nat):Prop where
 ext:Ext w wr
 blk:aq wr w.heap.size 53 #[.int .i64 x.a9,.int .i64 x.numOf,.string x.bu,.slice A m c]
 args:Sl wr (av w) A m (x.args.map bk)
theorem o2.on{w wr ab:World}{x:VE}{A:Lp}{m c:Nat}(h:o2 w wr x A m c)(O:Fr (λb=>w.heap.size<b) wr ab):o2 w ab x A m c:=
 ⟨⟨O.os.trans h.ext.os,O.tape.trans h.ext.tape,O.output.trans h.ext.output,KU h.ext.size O.size,λk ap hn=>(O.block k (KE ap h.ext.size) ad).trans (h.ext.block k ap hn)⟩,
  h.blk.on O ad,h.args.ak λb ak=>O.block b (KE ak h.ext.size) (by have:b<w.heap.size:=ak;omega)⟩
theorem Hg{sz:Nat}{v:Value}{xs:List Value}(aB:w.ownsRow base e sz v n xs)(a2:w.grownBy ab v.ownBlock)(O:∀g,base<=g->M g):Fr M w ab:=
 (Fr.refl M w).grown a2 λk ap=>.inl (O k (aB.lt k ap).1)
theorem Ext.fr(h:Ext w ab):Fr M w ab:=h.mono λ_ h=>h.elim
namespace Bi
theorem pa(h:p:=by
 have al:m<=2:=by rw[<-hs.1,KH];exact tv x
 have ce:(gD x).length=m:=by rw[x1,<-hs.1,KH]
 obtain⟨bL,bo,cq,aQ,F⟩:=CJ ce hs ao hx hlen;clear a5 hs ao hx hlen ce;go_enter func148,ntmps148;go_wp2;generalize ba:World.alloc _ _=W;have hT:o2 w W x A m c:=by
  have aw:=aX ba;exact⟨aw,by rw[<-ba];exact Lm,bo.ak λb ak=>aw.block b ak (λh=>h)⟩
 have aa:=ae hT;clear ba hT;go_loopw [3,4] (λsv bd wr=>∃k:Nat,k<=m/\bd=.int .i64 k/\o2 w wr x A m c/\wr.ownsRow (w.heap.size+1) 9 1 sv k (((gD x).take k).map λt=>Value.string (strOf t))) (λ_ bd _=>m - (intOf bd).toNat)
 case atStart=>exact⟨0,ad,rfl,aa.o,by simp,.inl ⟨rfl,rfl⟩⟩
 case round=>
  obtain⟨k,ap,rfl,hT,aB⟩:=hrel;clear aa;obtain⟨bR,bC,rfl,d5,_,_,_⟩:=b1 aB;obtain⟨aa,bM⟩:=aH hT aB;obtain⟨a0,ai,af⟩:=hT.blk.two;clear hT aB;by_cases ak:k<m
  .obtain⟨b,o,y,cs,rfl,O,bb,Q,bj,Z⟩:=aa.args.g0 c7 ak
   match cs,bj with
   | [cr,cy,cd,bv],_=>
   have c0:=Z 0 cr rfl;have c1:=Z 1 cy rfl;have c2:=Z 2 cd rfl;have c3:=Z 3 bv rfl;simp only[KN] at c0;have aV:b<wr.heap.size:=KE O aa.ext.size;clear Z O;obtain⟨B,bN,bc,e,cv,b2⟩:=a1.1 Q;simp only[List.cons.injEq,and_true] at e;obtain⟨rfl,rfl,rfl,rfl⟩:=e;have bB:=ae bb;have H:=ae (D.aL (c6:=av wr) (λb ak=>KE ak aa.ext.size) _ _ Q);clear bb Q b2;go_wp2_with(fail);refine(cq.o k y bB.o _ _ _ _ _ _ wr H.o ?_).mono ?_
   .exact KU (xm x.a9 k y) (KU (kr x (mg x bB.o).1) F.o)
   rintro e aS ⟨rfl,ar⟩;have cb:=(mg x bB.o).2;have ab:=ae (aa.on ar.fr);have d0:=(ar.cell (j:=o+k*4) aV (λh=>h)).trans c0;have bS:b<aS.heap.size:=KE aV ar.size;have Y:=ae (b0 bM.o (Fr.ext ar));clear aa bM a0 ai af c0 c1 c2 c3 ar aV;obtain⟨a0,ai,af⟩:=ab.blk.two;go_wp2_with(fail);refine(rz x.a9 x.numOf y.a9 x.bu b o m c k aS cb ak bS d0).mono ?_;rintro e aT ⟨rfl,bw⟩;have l:=ae (ab.on bw.fr);have a6:=ae (b0 Y.o (Fr.ext bw));clear ab Y a0 ai af d0 bS bw;obtain⟨a0,ai,af⟩:=l.blk.two;have HA:=ae (xl x.a9 k y);have R:=ae (mg x bB.o).1;have bt:(strOf (bW y)).size<=262144:=by
    rw[aO];exact KU (xm x.a9 k y) (KU (kr x (mg x bB.o).1) F.o)
   rw[<-Fi] at *;have b2:w.heap.size+1<=aT.heap.size:=l.blk.lt;by_cases an:dC x.a9 y.a9 (k == 1)=true
   .rw[an];have aL:=ae (show (⟨#[40]⟩:ByteArray)++strOf (bW y)++⟨#[41]⟩=strOf (gx x.a9 k y) by
     rw[HA.o,if_pos an,show (⟨#[40]⟩:ByteArray)=strOf [40] from rfl,show (⟨#[41]⟩:ByteArray)=strOf [41] from rfl,ag,ag];simp)
    clear an HA;exact Gf
   .have r:dC x.a9 y.a9 (k == 1)=false:=by simpa using an
    rw[r];have aL:=ae (show strOf (bW y)=strOf (gx x.a9 k y) by rw[HA.o,if_neg an]);clear an r HA;exact Gf
  .have L:k=m:=ad;subst L;have aW:=ae (yA (by
    have:=bM.o;rw[<-bL.o,List.take_length] at this;rw[<-bL.o];exact this) bL.o)
   have bq:=ae aa.ext;clear bM cq;have b7:decide ((k:Int)<(k:Int))=false:=by simp
   cases x with
   | num n=>
    have hn:0<=n/\n<4611686018427387904:=by have:=aQ.o;cases d<;>exact this
    have b4:=ae (show lA n=bW (.num n) by rw[uP hn.1];simp[bW,cn,aU,Atom.bytes]);have O:=l1 n wr ad;simp only[VE.a9,VE.numOf,VE.bu] at *;clear b7;go_wp2_with(fail);refine O.mono ?_;rintro e aS ⟨rfl,ar⟩;have bu:=ae (bq.trans (Fr.of ar));clear ar O;go_wp2;go_ret
    exact⟨ret_str (by rw[b4.o]),bu.o⟩
   | g1 s=>
    simp only[VE.a9,VE.numOf,VE.bu] at *;have b4:=ae (show s=strOf (bW (.g1 s)) by simp[bW,cn,aU,Atom.bytes,strOf]);go_wp2;go_ret
    exact⟨ret_str b4.o,bq.o⟩
   | loc j=>exact(by have:=aQ.o;cases d<;>exact this:False).elim
   | iB j=>exact(by have:=aQ.o;cases d<;>exact this:False).elim
   | un op y=>
    obtain rfl:k=1:=bL.symm;obtain⟨b,o,z,rfl,O,bt,hc⟩:=aW.str (k:=0) ad;have U:strOf (gx op 0 y)=z:=by simpa[gD] using bt
    subst U;have bZ:(strOf (gx op 0 y)).size<=262144:=by
     rw[aO];exact KU (kr (.un op y) (k:=0) rfl) F.o
    have cx:op=3\/op=4:=by
     cases d with
     | zero=>exact aQ.elim
     | succ d=>exact aQ.1
    have l:=ae (xR op y);simp only[KN] at hc;clear bt aQ aa F bL al cj b7 af d5;rcases cx with rfl|rfl
    .have b4:=ae (show (⟨#[45]⟩:ByteArray)++strOf (gx 3 0 y)=strOf (bW (.un 3 y)) by rw[l.o,if_pos rfl];exact ag [45] _);clear l;generalize gx 3 0 y=t at *;exact zs
    .have b4:=ae (show (⟨#[33]⟩:ByteArray)++strOf (gx 4 0 y)=strOf (bW (.un 4 y)) by rw[l.o,if_neg ad];exact ag [33] _);clear l;generalize gx 4 0 y=t at *
     exact zs
   | bin op y z=>
    obtain rfl:k=2:=bL.symm;obtain⟨b,o,ax,rfl,O,X,u⟩:=aW.str (k:=0) ad;obtain⟨K,M,bp,e,_,bD,dB⟩:=aW.str (k:=1) ad;simp only[Lg,Addr.mk.injEq,and_true] at e;obtain⟨rfl,rfl⟩:=e;have U:strOf (gx op 0 y)=ax:=by simpa[gD] using X
    have ac:strOf (gx op 1 z)=bp:=by simpa[gD] using bD
    subst U ac;have aD:(strOf (gx op 0 y)).size<=262144:=by
     rw[aO];exact KU (kr (.bin op y z) (k:=0) rfl) F.o
    have hp:(strOf (gx op 1 z)).size<=262144:=by
     rw[aO];exact KU (kr (.bin op y z) (k:=1) rfl) F.o
    have cx:5<=op/\op<=17:=by
     cases d with
     | zero=>exact aQ.elim
     | succ d=>exact aQ.1
    have b4:=ae (show ((strOf (gx op 0 y)++⟨#[32]⟩)++strOf (gR op))++⟨#[32]⟩++strOf (gx op 1 z)=strOf (bW (.bin op y z)) by
     rw[uH,show (⟨#[32]⟩:ByteArray)=strOf [32] from rfl,ag,ag,ag,ag];simp)
    have bA:(strOf (gR op)).size<=2:=by
     rw[aO];unfold gR
     repeat' split
     all_goals simp
    have o1:(op == 1)=false:=by simp;omega
    have fg:(op == 2)=false:=by simp;omega
    have o3:(op == 3)=false:=by simp;omega
    have o4:(op == 4)=false:=by simp;omega
    obtain⟨bU,ci,bm,bQ⟩:=uy cx;have au:=ae (λ(i:Nat)=>FC (i:=i) cx);obtain⟨V,c5⟩:=aH bQ bm;simp only[KN] at u;clear X bD aQ F bL al cj b7 af d5 aW bQ cx;generalize strOf (gx op 0 y)=t0 at *;generalize strOf (gx op 1 z)=t1 at *;generalize strOf (gR op)=sg at *;simp only[VE.a9,VE.numOf,VE.bu] at *;go_wp2_with(fail);refine(gq op wr).mono ?_;rintro e aS ⟨rfl,ar⟩;rw[bm];go_wp2_with(fail);refine(rN bU ci aS).mono ?_;rintro e aT ⟨bR,aE,n,hn,rfl,hs,bn,bw⟩;have q:=ar.trans bw;have a4:=ae (bq.trans q);have e0:=(q.cell (j:=o) O (λh=>h)).trans u;have e1:=(q.cell (j:=o+1) O (λh=>h)).trans dB;have bg:b<aT.heap.size:=KE O q.size;have l:=ae (aa.on (Ext.fr q));obtain⟨a8,am,aF⟩:=l.blk.two;simp only[VE.a9,VE.numOf,VE.bu] at a8;have bM:=ah hs bn;clear hs bn ar bw q u dB O a0 ai aa bq bm;go_wp2_with(fail);go_loopw [8] (λcu wr=>∃j:Nat,j<=n/\cu=.int .i64 j/\(∀(i:Nat) (x:Int),i<j->(nD bU)[i]?=some x->x≠op)/\Ext aT wr) (λcu _=>n - (intOf cu).toNat)
    case atStart=>exact⟨0,ad,rfl,λi x h=>ad,Ll⟩
    case round=>
     obtain⟨j,bi,rfl,be,bT⟩:=hrel;obtain⟨bz,a9⟩:=aH be bT;obtain⟨v0,ay⟩:=Fr.s6 bT;clear be bT;by_cases G:j<n
     .obtain⟨c1,aI,x,rfl,P,hx,az⟩:=bM.2.int G;obtain⟨c2,aK,gH,rfl,aC,cS,T⟩:=bM.1.str G;have aQ:=ae hx;by_cases qL:x=op
      .subst qL;have v:=au.o j (by rw[c5.o];exact hx);rw[c5.o,KY,cS] at v;injection v with v;subst v;clear hx cS;go_wp2;go_quiet (fail)
       go_wp2;go_quiet (fail)
       go_wp2;go_ret;exact⟨ret_str b4.o,a4.trans ((a9.drewN _).drewN _)⟩
      .have q1:(x == op)=false:=by simpa using qL
       have S:=ae qL;clear qL hx cS;go_wp2;go_quiet (fail)
       go_wp2
       go_round
       case rel=>refine⟨j+1,ad,by go_num,λi y an bb=>?_,?_⟩;rotate_left;exact a9.drewN _;exact(by
        by_cases J:i=j
        .subst J;rw[aQ.o] at bb;injection bb with bb;subst bb;exact S.o
        .exact bz.o i y ad bb)
       case measure=>exact aG
     .exfalso;obtain⟨i,an⟩:=List.getElem?_of_mem V.o;have ak:=(List.getElem?_eq_some_iff.1 an).1;have hl:=bM.2.1;exact bz.o i op ad an rfl
 ):p:=h
end Bi
open Bi in
theorem rP(N:Lq)(d:Nat)(x:VE)(hx:x.src N d)(ao:∀(k:Nat) (y:VE),x.args[k]?=some y->y0 y):y0 x:=by
 intro op n s A m c w a5 hlen;exact o9
theorem jH(N:Lq):∀(d:Nat) (x:VE),x.src N d->y0 x
 | 0,x,h=>rP N 0 x h λk y bb=>by rw[qx h] at bb;simp at bb
 | d+1,x,h=>rP N (d+1) x h λk y bb=>jH N d y (qw h bb)
def fT(r:eO):List UInt8:=aU (iu r)
theorem wH(h:r.idx=none):fT r=r.name.data.toList:=by
 unfold fT iu;rw[h];simp[aU,Atom.bytes]
theorem wI{e:VE}(h:r.idx=some e):fT r=r.name.data.toList++91::(bW e++[93]):=by
 unfold fT iu bW;rw[h];simp[aU,Atom.bytes]
theorem jv:(kx r).rep w P cs↔∃A n c,cs=[.string r.name,.slice A n c]/\n<=c/\Sl w P A n (r.idx.toList.map bk):=by
 unfold kx;rw[bI,cp];constructor
 .rintro⟨y,rfl,h⟩;obtain⟨A,n,c,bv,rfl,hc,hs,aU⟩:=aN.1 h;exact r3
 .rintro⟨A,n,c,rfl,hc,hs⟩;exact uW
def Ej(r:eO):Prop:=∀e,r.idx=some e->∃N d,e.src N d
theorem db(s:ByteArray):strOf s.data.toList=s:=by simp[strOf]
namespace Bj
theorem zJ(h:p:=by
 refine pf ?_;refine aE ?_;go_wp2;go_ret;exact⟨ret_str b4.o,bq.trans (Fr.aF ar)⟩
 ):p:=h
end Bj
open Bj in
theorem kE(r:eO)(ay:Ej r)(s:ByteArray)(A:Lp)(n c:Nat)(w:World)(a5:(kx r).rep w (av w) [.string s,.slice A n c])(hlen:(fT r).length<=262144) :
  Calls prog 150 #[.agg #[.string s,.slice A n c]] w λe ab=>e=.returned (.string (strOf (fT r)))/\Ext w ab:=by
 obtain⟨I,aP,aJ,e,U,hs⟩:=jv.1 a5;simp only[List.cons.injEq,Value.string.injEq,Value.slice.injEq,and_true] at e;obtain⟨rfl,rfl,rfl,rfl⟩:=e
 cases an:r.idx with
 | none=>
  rw[an] at hs;obtain rfl:n=0:=hs.1.symm;have b4:=ae (show r.name=strOf (fT r) by rw[wH an,db]);clear an hs a5 hlen ay;go_enter func150,ntmps150;go_wp2;go_ret
  exact⟨ret_str b4.o,Ll.alloc _⟩
 | some x=>
  rw[an] at hs;obtain rfl:n=1:=hs.1.symm;obtain⟨N,d,hx⟩:=ay x an;obtain⟨b,o,bs,Z,bA,E,rfl,O,aB,c0,c1,c2,c3⟩:=Sl.DU hs (c7 x);obtain⟨B,bN,bc,e,cv,b2⟩:=a1.1 aB;simp only[List.cons.injEq,and_true] at e;obtain⟨rfl,rfl,rfl,rfl⟩:=e;have aV:b<w.heap.size:=O;have aa:=ae (wI an);have X:r.name.size<=262144:=by
   have:=hlen;rw[aa.o,KF] at this;have au:r.name.size=r.name.data.toList.length:=rfl;omega
  have bD:(bW x).length<=262144:=by
   have:=hlen;rw[aa.o,KF] at this;simp at this;omega
  have b4:=ae (show r.name++⟨#[91]⟩++strOf (bW x)++⟨#[93]⟩=strOf (fT r) by
   rw[aa.o,show (⟨#[91]⟩:ByteArray)=strOf [91] from rfl,show (⟨#[93]⟩:ByteArray)=strOf [93] from rfl];conv=>lhs;rw[<-db r.name]
   rw[ag,ag,ag];simp)
  have bf:=ae bD;have ck:(strOf (bW x)).size<=262144:=by rw[aO];exact bD
  have aQ:=ae (jH N d x hx);have ak:=ae aB;clear an hs a5 hlen ay aa aB b2 O bD hx;go_enter func150,ntmps150;go_wp2;generalize ba:World.alloc _ _=W;have aw:=aX ba;obtain⟨a0,ai,af⟩:=(show aq W w.heap.size 171 #[.string r.name,.slice (some ⟨b,o,none⟩) 1 c] by rw[<-ba];exact Lm).two;have d0:=(aw.cell (j:=o) aV (λh=>h)).trans c0;have d1:=(aw.cell (j:=o+1) aV (λh=>h)).trans c1;have d2:=(aw.cell (j:=o+2) aV (λh=>h)).trans c2;have d3:=(aw.cell (j:=o+3) aV (λh=>h)).trans c3;have f:b<W.heap.size:=KE aV aw.size;have bq:=ae aw;clear ba aw c0 c1 c2 c3 aV;refine eK (λ_=>False) [(0,3),(1,0),(2,3),(3,3),(4,0),(5,3),(6,0),(7,1),(8,3),(9,3),(10,3)] ?_;refine pf ?_;refine ph ?_;refine br (v:=?_) rfl (by rfl) (λV=>?_) ?_;rotate_left
  .go_simp;exact ei
  try simp only[PU]
  refine pf ?_;refine ph ?_;refine pf ?_;refine ph ?_;refine aI rfl (λK hK=>?_);go_simp;refine(aQ.o _ _ _ _ _ _ _ (D.on ak.o (Fr.ext bq.drew)) bf.o).mono ?_;exact zI
def n7(a:dn):List UInt8:=aU (fD a)
def jc(l:List dn):List UInt8:=40::aU (dX (l.map fD))
def hL(l:List dn):List UInt8:=aU (iT l)
theorem rO(l:List dn):hL l=jc l++[41]:=by
 unfold hL iT jc;rw[a5,bf];rfl
theorem lW:∀(l:List (List Atom)) (a:List Atom),dX (l++[a])=if l=[] then a else dX l++(.sg [44]::.ws 32::a)
 | [],a=>rfl
 | [b],a=>by simp[dX]
 | b::d::l,a=>by
  have ao:=lW (d::l) a;rw[if_neg (by simp)] at ao;rw[if_neg (by simp)];show dX (b::d::(l++[a]))=_
  simp only[dX];rw[KS] at ao;rw[ao];simp
theorem q4{a1:List dn}{a:dn}(h:a1[k]?=some a):jc (a1.take (k+1))=jc (a1.take k)++((if 0<k then [44,32] else [])++n7 a):=by
 have ap:k<a1.length:=(List.getElem?_eq_some_iff.1 h).1;unfold jc n7;rw[List.take_add_one,h,KK];show (40:UInt8)::aU (dX (List.map fD (List.take k a1)++[fD a]))=_
 rw[lW];by_cases h0:0<k
 .rw[if_neg (by intro e;have:=congrArg List.length e;simp only[KH,List.length_take,KW] at this;omega),if_pos h0,bf,a5,a5];simp[Atom.bytes]
 .obtain rfl:k=0:=ad;simp[dX,aU]
theorem xZ(a1:List dn)(k:Nat):(jc (a1.take k)).length<=(jc (a1.take (k+1))).length:=by
 cases h:a1[k]? with
 | none=>rw[KL (i:=k+1) (by have:=List.getElem?_eq_none_iff.1 h;omega),KL (List.getElem?_eq_none_iff.1 h)];exact KD _
 | some a=>rw[q4 h];simp
theorem xf(a1:List dn):∀j k:Nat,(jc (a1.take k)).length<=(jc (a1.take (k+j))).length
 | 0,k=>KD _
 | j+1,k=>KU (xf a1 j k) (xZ a1 (k+j))
theorem tu(a1:List dn)(ap:k<=a1.length):(jc (a1.take k)).length<=(hL a1).length:=by
 have:=xf a1 (a1.length - k) k;rw[show k+(a1.length - k)=a1.length by omega,List.take_length] at this;rw[rO];simp;omega
def FD:dn->Prop
 | .mx r=>Ej r
 | .ex e=>∃N d,e.src N d
theorem sD(a:dn):(gI a).sz=7:=by
 cases a with
 | mx r=>rfl
 | ex e=>show D.yF [.b false,fV,bk e]=7;simp only[D.yF,c7,D.sz,fV]
theorem dD{d:D}{l:List D}:D.aQ w P (d::l) cs↔∃x y,cs=x++y/\d.rep w P x/\D.aQ w P l y:=by simp only[D.aQ]
theorem EZ(h:(gI (.mx r)).rep w P cs):∃s A n c e0 e1 e2 e3,cs=[.bool true,.string s,.slice A n c,e0,e1,e2,e3]/\(kx r).rep w P [.string s,.slice A n c]:=by
 unfold gI at h;rw[bI,fp] at h;obtain⟨y,rfl,h⟩:=h;obtain⟨x,cd,rfl,hx,bb⟩:=dD.1 h;obtain⟨A,n,c,rfl,hc,hs⟩:=jv.1 hx;rw[D.bj] at bb;obtain⟨A2,c2,rfl⟩:=fh.1 bb;exact⟨_,A,n,c,_,_,_,_,rfl,hx⟩
namespace Bk
theorem vm(h:p:=by
 obtain⟨A,n,c,bF,rfl,_,_,bt⟩:=aN.1 hx;rw[aP] at bt;subst bt;exact zi
 ):p:=h
end Bk
open Bk in
theorem EY{e:VE}(h:(gI (.ex e)).rep w P cs):∃bl r1 op n s A m c,cs=[.bool false,bl,r1,.int .i64 op,.int .i64 n,.string s,.slice A m c]/\(bk e).rep w P [.int .i64 op,.int .i64 n,.string s,.slice A m c]:=by
 exact vl
theorem ss(a1:List dn)(ay:∀a∈a1,FD a)(A:Lp)(n c:Nat)(w:World)(hs:Sl w (av w) A n (a1.map gI))(hlen:(hL a1).length<=262144)(hn:n<=1000) :
  Calls prog 149 #[.slice A n c] w λe ab=>e=.returned (.string (strOf (hL a1)))/\Ext w ab:=by
 have hl:a1.length=n:=by rw[<-hs.1,KH]
 obtain⟨b9,bo,bC,F⟩:=iS hl hs ay hlen;clear hs ay hlen hl;go_enter func149,ntmps149;go_wp2;go_loopw [3,4] (λsv bd wr=>∃k:Nat,k<=n/\bd=.int .i64 k/\sv=.string (strOf (jc (a1.take k)))/\Ext w wr) (λ_ bd _=>n - (intOf bd).toNat)
 case atStart=>exact⟨0,ad,rfl,rfl,Ll⟩
 case round=>
  obtain⟨k,ap,rfl,rfl,aw⟩:=hrel;have bq:=ae aw;clear aw;have bt:(strOf (jc (a1.take k))).size<=262144:=by
   rw[aO];exact KU (tu a1 (by rw[b9.o];exact ap)) F.o
  by_cases ak:k<n
  .obtain⟨b,o,a,cs,rfl,O,bx,ah,bj,Z⟩:=(bo.on (Fr.ext bq.o)).g0 sD ak;have aV:b<wr.heap.size:=O;have HA:=ae bx;have i:=ae (q4 bx);have ce:=ae (bC.o a (KG bx));have cu:(n7 a).length<=262144:=by
    have ac:=tu a1 (k:=k+1) (by rw[b9.o];exact ak);rw[i.o] at ac;have au:=F.o;simp at ac;omega
   have f:=ae cu;have ck:(strOf (n7 a)).size<=262144:=by rw[aO];exact cu
   clear bx cu O
   cases a with
   | mx r=>
    obtain⟨s,cc,bD,rc,e0,e1,e2,e3,rfl,aB⟩:=EZ ah;have c0:=Z 0 _ rfl;have c1:=Z 1 _ rfl;have c2:=Z 2 _ rfl;simp only[KN] at c0;have U:=ae aB;clear Z ah aB;have l:=ae (show n7 (.mx r)=[109,117,116,101,120,32]++fT r by
     unfold n7 fD fT;rw[a5,a5];simp[kw,fN,Atom.bytes])
    have t:(fT r).length<=262144:=by
     have:=f.o;rw[l.o] at this;simp at this;omega
    have j:=ae t;have z:(strOf (fT r)).size<=262144:=by rw[aO];exact t
    clear t;by_cases h0:0<k
    ·
     have q:decide ((k:Int) > 0)=true:=by simp;omega
     have aL:=ae (show strOf (jc (a1.take k))++⟨#[44,32]⟩++⟨#[109,117,116,101,120,32]⟩++strOf (fT r)=strOf (jc (a1.take (k+1))) by
      rw[i.o,if_pos h0,l.o,show (⟨#[44,32]⟩:ByteArray)=strOf [44,32] from rfl,show (⟨#[109,117,116,101,120,32]⟩:ByteArray)=strOf [109,117,116,101,120,32] from rfl,ag,ag,ag]
      try simp)
     go_wp2_with(fail);refine(kE r ce.o s cc bD rc wr U.o j.o).mono ?_;rintro e aS ⟨rfl,ar⟩;have bu:=ae (bq.trans ar);clear ar c0 c1 c2 bq;exact xa
    ·
     have q:decide ((k:Int) > 0)=false:=by simp;omega
     have aL:=ae (show strOf (jc (a1.take k))++⟨#[109,117,116,101,120,32]⟩++strOf (fT r)=strOf (jc (a1.take (k+1))) by
      rw[i.o,if_neg h0,l.o,show (⟨#[109,117,116,101,120,32]⟩:ByteArray)=strOf [109,117,116,101,120,32] from rfl,ag,ag]
      try simp)
     go_wp2_with(fail);refine(kE r ce.o s cc bD rc wr U.o j.o).mono ?_;rintro e aS ⟨rfl,ar⟩;have bu:=ae (bq.trans ar);clear ar c0 c1 c2 bq
     exact xa
   | ex x=>
    obtain⟨bl,r1,op,bc,s,EA,em,ec,rfl,g⟩:=EY ah;have c0:=Z 0 _ rfl;have c1:=Z 3 _ rfl;have c2:=Z 4 _ rfl;have c3:=Z 5 _ rfl;have u:=Z 6 _ rfl;simp only[KN] at c0;have m:=ae g;have z:(strOf (bW x)).size<=262144:=ck;obtain⟨N,d,hx⟩:=ce.o;have aQ:=ae (jH N d x hx);clear Z ah g hx ce;by_cases h0:0<k
    ·
     have q:decide ((k:Int) > 0)=true:=by simp;omega
     have aL:=ae (show strOf (jc (a1.take k))++⟨#[44,32]⟩++strOf (bW x)=strOf (jc (a1.take (k+1))) by
      rw[i.o,show n7 (.ex x)=bW x from rfl,if_pos h0,show (⟨#[44,32]⟩:ByteArray)=strOf [44,32] from rfl,ag,ag]
      try simp)
     go_wp2_with(fail);refine(aQ.o op bc s EA em ec wr m.o f.o).mono ?_;rintro e aS ⟨rfl,ar⟩;have bu:=ae (bq.trans ar);clear ar c0 c1 c2 c3 u bq;exact xa
    ·
     have q:decide ((k:Int) > 0)=false:=by simp;omega
     have aL:=ae (show strOf (jc (a1.take k))++strOf (bW x)=strOf (jc (a1.take (k+1))) by
      rw[i.o,show n7 (.ex x)=bW x from rfl,if_neg h0,ag]
      try simp)
     go_wp2_with(fail);refine(aQ.o op bc s EA em ec wr m.o f.o).mono ?_;rintro e aS ⟨rfl,ar⟩;have bu:=ae (bq.trans ar);clear ar c0 c1 c2 c3 u bq;exact xa
  .obtain rfl:k=n:=ad;have aL:=ae (show strOf (jc (a1.take k))++⟨#[41]⟩=strOf (hL a1) by
    rw[rO,<-b9.o,List.take_length,<-ag];rfl)
   go_wp2;go_ret;exact⟨ret_str aL.o,bq.o⟩
end Go.Proofs.YtglbpimocmhojaaGreat
