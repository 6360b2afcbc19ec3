/- Part 11 of the proof. No condition of its own. -/
import Derived.Test.YtflecliffjbleaaGreatS07
import Derived.Test.YtflecliffjbleaaGreatS10
namespace Go.Proofs.YtflecliffjbleaaGreat
open Go.RowKit Go.Proofs.Tryz
set_option maxRecDepth 1000000
set_option maxHeartbeats 25600000
set_option linter.unusedVariables false
variable{op:Int}{l:List UInt8}{cs:List Value}{B N base g k m n:Nat}{M P:Nat->Prop}{p:Prop}{e t:TypeId}{x y:VE}{ab w:World}{r:eW}
def byteOf(v:Int):UInt8:=UInt8.ofNat v.toNat
theorem la(W:World)(v:Int):(convert 78 9 (.slice (some ⟨W.heap.size,0,none⟩) 1 1)).run prog (W.alloc (.cells #[.int .u8 v] 5))=.ok (.string (strOf [byteOf v])) (W.alloc (.cells #[.int .u8 v] 5)):=by
 have:=run_convert_bytes_arg (P:=prog) (W.alloc (.cells #[.int .u8 v] 5)) 78 5 Tryz.underlying78 Tryz.underlying5 W.heap.size 0 1 1 [v] rfl (λi al=>by
  have:i=0:=ad;subst this;rw[(ao.new W 5 #[.int .u8 v]).cell];rfl) 9 Tryz.underlying9
 rw[this];rfl
theorem aM(l:List UInt8):(strOf l).size=l.length:=by simp[strOf,ByteArray.size]
theorem pW(m:Nat):byteOf (48+((m:Int) % 10))=UInt8.ofNat (48+m % 10):=by
 unfold byteOf;congr 1
theorem ret_str{a b:ByteArray}(h:a=b):Ending.returned (.string a)=.returned (.string b):=by rw[h]
theorem ag(a b:List UInt8):strOf a++strOf b=strOf (a++b):=by
 unfold strOf;rw[ByteArray.ext_iff];simp
def jo(N m:Nat)(l:List UInt8):Prop:=jD N=(if m=0 then [] else jD m)++l
theorem rP(N:Nat):jo N (N / 10) [UInt8.ofNat (48+N % 10)]:=by
 unfold jo;rw[jD];split
 .rename_i h;rw[if_pos ad,show N % 10=N by omega];rfl
 .rw[if_neg ad]
theorem D2(h:jo N m l)(hm:0<m):jo N (m / 10) (UInt8.ofNat (48+m % 10)::l):=by
 unfold jo at *;rw[if_neg ad] at h;rw[h];have:=rP m;unfold jo at this;rw[this];simp
theorem FP(h:jo N m l)(hN:N<=9223372036854775808):l.length<=20:=by
 have:=jE 19 N ad;unfold jo at h;rw[h,LD] at this;omega
theorem p2(N:Nat)(w:World)(hN:N<=9223372036854775808) :
  Calls prog 145 #[.int .u64 N] w λe ab=>e=.returned (.string (strOf (jD N)))/\Below w.heap.size w ab:=by
 have kc:=la w;go_enter func145,ntmps145;go_wp2;go_loopw [0,3] (λa sv wr=>∃(m:Nat) (l:List UInt8),a=.int .u64 m/\sv=.string (strOf l)/\m<=N/\jo N m l/\Below w.heap.size w wr) (λa _ _=>(intOf a).toNat)
 case atStart=>exact⟨N / 10,[byteOf (48+(N:Int) % 10)],by simp,rfl,ad,by rw[pW];exact rP N,(Below.refl _ _).alloc (Lz _) _⟩
 case round=>
  obtain⟨m,l,rfl,rfl,hm,a9,O⟩:=hrel;obtain⟨a2,bH⟩:=aH a9 O;have hl:=FP a9 hN;clear a9 O kc;have kc:=la wr;by_cases h0:0<m
  .have q:decide ((m:Int) > 0)=true:=by simp;omega
   have ar:decide (m > 0)=true:=by simp;omega
   have aG:(strOf l).size<=20:=by rw[aM];omega
   have bP:(strOf [byteOf (48+(m:Int) % 10)]).size<=1:=by rw[aM];simp
   go_wp2;go_roundw
   case rel=>exact⟨m / 10,byteOf (48+(m:Int) % 10)::l,by simp,by rw[ag];rfl,ad,by rw[pW];exact D2 a2.o h0,bH.alloc bH.size _⟩
   case measure=>exact aE
  .have bQ:m=0:=ad;have bj:=ae (show jD N=l by have:=a2.o;unfold jo at this;rw[if_pos bQ] at this;simpa using this);have q:decide ((m:Int) > 0)=false:=by simp;omega
   clear bQ;go_wp2;go_ret;exact⟨ret_str (by rw[bj.o]),bH.o⟩
def lX(n:Int):List UInt8:=aV (h3 n)
theorem zC{n:Int}(h:n<0):lX n=45::jD n.natAbs:=by unfold lX h3;rw[if_pos h];simp[aV,Atom.bytes]
theorem vx{n:Int}(h:0<=n):lX n=jD n.toNat:=by unfold lX h3;rw[if_neg ad];simp[aV,Atom.bytes]
theorem mr(n:Int)(w:World)(h:-9223372036854775808<=n/\n<=9223372036854775807) :
  Calls prog 130 #[.int .i64 n] w λe ab=>e=.returned (.string (strOf (lX n)))/\Below w.heap.size w ab:=by
 by_cases hn:n<0
 .obtain⟨m,rfl⟩:∃m:Nat,n = -((m:Int)+1):=⟨(-(n+1)).toNat,ad⟩
  have hm:m<=9223372036854775807:=ad;have Q:=ae (zC hn);clear hn h;go_enter func130,ntmps130;go_wp2_with(fail);rw[show (-(-((m:Int)+1)+1)+1)=((m+1:Nat):Int) by omega];refine(p2 (m+1) w ad).mono ?_;rintro e ab ⟨rfl,O⟩;have bH:=ae O;clear O;have aG:(strOf (jD (m+1))).size<=20:=by rw[aM];exact jE 19 _ ad
  go_wp2;go_ret;exact⟨ret_str (by rw[Q.o,show (-((m:Int)+1)).natAbs=m+1 by omega];exact ag [45] _),bH.o⟩
 .obtain⟨m,rfl⟩:=LH (show 0<=n by omega);have Q:=ae (vx (n:=(m:Int)) ad);clear hn;go_enter func130,ntmps130;go_wp2_with(fail);refine(p2 m w ad).mono ?_;rintro e ab ⟨rfl,O⟩;have bH:=ae O;clear O;go_wp2;go_ret;exact⟨ret_str (by rw[Q.o,LZ]),bH.o⟩
def na:Nat->List (List UInt8×Int)
 | 0=>[([124,124],17)]
 | 1=>[([38,38],16)]
 | 2=>[([61,61],14),([33,61],15),([60],10),([60,61],11),([62],12),([62,61],13)]
 | 3=>[([43],8),([45],9)]
 | _=>[([42],5),([47],6),([37],7)]
def IB(k:Nat):List ByteArray:=(na k).map λp=>strOf p.1
def n9(k:Nat):List Int:=(na k).map (·.2)
theorem E2{cs:Array Value}{l:List Int}(h:ao w g t cs)(hc:cs=(l.map (Value.int .i64)).toArray)(hl:l.length=n)(aS:g<B):cA (EF cd) 1 w B (some ⟨g,0,none⟩) n l:=by
 subst hc;refine⟨hl,λ_=>⟨g,0,rfl,aS,λk x hx=>⟨cd x,rfl,rfl,λj v bi=>?_⟩⟩⟩;have cI:j=0/\v=.int .i64 x:=by
  cases j with
  | zero=>simp[cd] at bi;exact⟨rfl,bi.symm⟩
  | succ j=>simp[cd] at bi
 obtain⟨rfl,rfl⟩:=cI;rw[h.cell];simp[hx]
theorem E3{cs:Array Value}{l:Ml}(h:ao w g t cs)(hc:cs=(l.map Value.string).toArray)(hl:l.length=n)(aS:g<B):cA (EF oQ) 1 w B (some ⟨g,0,none⟩) n l:=by
 subst hc;refine⟨hl,λ_=>⟨g,0,rfl,aS,λk x hx=>⟨oQ x,rfl,rfl,λj v bi=>?_⟩⟩⟩;have cI:j=0/\v=.string x:=by
  exact z8
 obtain⟨rfl,rfl⟩:=cI;rw[h.cell];simp[hx]
def zP(w:World)(k:Nat)(e:Ending)(ab:World):Prop:=
 ∃A B n,n<=6/\e=.returned (.tuple #[.slice A n n,.slice B n n])/\cA (EF oQ) 1 ab ab.heap.size A n (IB k)/\cA (EF cd) 1 ab ab.heap.size B n (n9 k)/\Ext w ab
theorem sj(k:Nat)(aj:k<=4)(w:World):Calls prog 142 #[.int .i64 k] w (zP w k):=by
 obtain rfl|rfl|rfl|rfl|rfl:k=0\/k=1\/k=2\/k=3\/k=4:=ad
 all_goals
  clear aj;go_enter func142,ntmps142;go_wp2
  go_ret2
  generalize bd:World.alloc (World.alloc w _) _=W;refine⟨some ⟨w.heap.size,0,none⟩,some ⟨w.heap.size+1,0,none⟩,_,by decide,rfl,E3 (t:=9) (cs:=((IB _).map Value.string).toArray) ?_ rfl rfl ?_,E2 (t:=3) (cs:=((n9 _).map (Value.int .i64)).toArray) ?_ rfl rfl ?_,?_⟩
  .rw[<-bd];exact(Mh).alloc _
  .rw[<-bd];simp;omega
  .rw[<-bd];exact ao.gA _ _ _ (by simp)
  .rw[<-bd];simp
  .rw[<-bd];exact(Mg.alloc _).alloc _
theorem FE(aj:k<=4)(h:op∈n9 k):cZ op=k:=by
 obtain rfl|rfl|rfl|rfl|rfl:k=0\/k=1\/k=2\/k=3\/k=4:=ad
 all_goals
  simp[n9,na] at h;unfold cZ
  repeat' split
  all_goals omega
theorem DT(h:∀k:Nat,k<5->op∉n9 k):cZ op=if op=3\/op=4 then 5 else 6:=by
 have h0:=h 0 ad;have ac:=h 1 ad;have ax:=h 2 ad;have a1:=h 3 ad;have aU:=h 4 ad;simp[n9,na] at h0 ac ax a1 aU;unfold cZ;rw[if_neg ad,if_neg ad,if_neg ad,if_neg ad,if_neg ad]
theorem gE(op:Int)(w:World):Calls prog 154 #[.int .i64 op] w λe ab=>e=.returned (.int .i64 (cZ op))/\Ext w ab:=by
 go_enter func154,ntmps154;go_wp2;go_loopw [3] (λL wr=>∃k:Nat,k<=5/\L=.int .i64 k/\(∀i:Nat,i<k->op∉n9 i)/\Ext w wr) (λL _=>6 - (intOf L).toNat)
 case atStart=>exact⟨0,ad,rfl,λi h=>ad,Mg⟩
 case round=>
  obtain⟨k,aj,rfl,bg,O⟩:=hrel;obtain⟨bH,ca⟩:=aH O bg;clear O bg;by_cases ap:k<5
  .have q:decide ((k:Int)<5)=true:=by simp;omega
   go_wp2_with(fail);refine(sj k ad _).mono ?_;rintro e aW ⟨A,B,n,hn,rfl,hs,bn,he⟩;have a5:=ah bn he;clear hs bn he;go_wp2_with(fail)
   go_loop [6] (λcw=>∃j:Nat,j<=n/\cw=.int .i64 j/\∀(i:Nat) (x:Int),i<j->(n9 k)[i]?=some x->x≠op) (λcw=>n - (intOf cw).toNat)
   case atStart=>exact⟨0,ad,rfl,λi x h=>ad⟩
   case round=>
    obtain⟨j,bi,rfl,bl⟩:=hrel;have bj:=ae bl;clear bl;by_cases K:j<n
    .obtain⟨b,o,x,rfl,an,hx,hc⟩:=a5.1.int K;have aR:=ae hx;clear hx;by_cases rj:x=op
     .have q1:(x == op)=true:=by simpa using rj
      have a2:=ae (FE (op:=op) (k:=k) ad (by rw[<-rj];exact LF aR.o));clear rj;go_wp2;go_ret;exact⟨ret_int a2.symm,bH.trans a5.2⟩
     .have q1:(x == op)=false:=by simpa using rj
      have J:=ae rj;clear rj;go_wp2
      go_round
      case rel=>exact⟨j+1,ad,by go_num,λi y al bb=>by
       by_cases v:i=j
       .subst v;rw[aR.o] at bb;injection bb with bb;subst bb;exact J.o
       .exact bj.o i y ad bb⟩
      case measure=>exact aE
    .have c:j=n:=ad;have cK:=ae (show op∉n9 k from λhm=>by
      obtain⟨i,al⟩:=List.getElem?_of_mem hm;have ap:=(List.getElem?_eq_some_iff.1 al).1;have hl:=a5.1.1;exact bj.o i op ad al rfl)
     have cO:decide ((j:Int)<(n:Int))=false:=by simp;omega
     clear c;go_wp2;go_roundw
     case rel=>exact⟨k+1,ad,by go_num,λi al=>by
      by_cases bP:i=k
      .subst bP;exact cK.o
      .exact ca.o i ad,bH.trans a5.2⟩
     case measure=>exact aE
  .have aO:k=5:=ad;have a2:=ae (DT (op:=op) (λi al=>ca.o i ad));subst aO;by_cases a1:op=3\/op=4
   .have S:=ae (a2.trans (if_pos a1));rcases a1 with rfl|rfl
    all_goals
     go_wp2;go_ret;exact⟨ret_int S.symm,bH.o⟩
   .have S:=ae (a2.trans (if_neg a1));have da:(op == 3)=false:=by simp;omega
    have db:(op == 4)=false:=by simp;omega
    clear a1;go_wp2;go_ret;exact⟨ret_int S.symm,bH.o⟩
theorem Gc(x:VE):x.a2=a2 x:=by cases x<;>rfl
theorem r2(op n P:Int)(nm:ByteArray)(b o m c:Nat)(k:Nat)(w:World)(aj:k<=1)(M:k<m)(O:b<w.heap.size)(hc:w.cell? ⟨b,o+k*4,none⟩=some (.int .i64 P)) :
  Calls prog 155 #[.agg #[.int .i64 op,.int .i64 n,.string nm,.slice (some ⟨b,o,none⟩) m c],.int .i64 k] w λe ab=>e=.returned (.bool (dE op P (k == 1)))/\Ext w ab:=by
 have cS:(0:Int)<=(k:Int):=ad;have cv:(k:Int)<(m:Int):=ad;go_enter func155,ntmps155;go_wp2;generalize bd:World.alloc _ _=W;have aF:=aZ bd;obtain⟨a0,ak,af⟩:=(show ao W w.heap.size 56 #[.int .i64 op,.int .i64 n,.string nm,.slice (some ⟨b,o,none⟩) m c] by rw[<-bd];exact Mh).two;have aX:=(aF.cell (j:=o+k*4) O (λh=>h)).trans hc;have f:b<W.heap.size:=LC O aF.size;have bj:=ae aF;clear bd aF hc;refine eK (λ_=>False) [(0,3),(1,0),(2,3),(3,3),(4,3),(5,0),(7,3),(8,0),(6,1),(9,2),(10,3),(11,3)] ?_;refine pf ?_;refine ph ?_
 iterate 3 refine pf ?_
 refine ph ?_;refine pf ?_;refine ph ?_;refine aI rfl (λK hK=>?_);go_simp;refine(gE P _).mono ?_;rintro e aP ⟨rfl,ar⟩;refine dP hK (ar) ?_;clear hK K;have bu:=ae (bj.trans (Fr.aF ar));clear ar;refine au rfl (λK hK=>?_);go_simp;refine(gE op _).mono ?_;rintro e aW ⟨rfl,bL⟩;refine dU hK ?_;clear hK K;have a7:=ae (bu.trans bL);clear bL a0 ak af aX
 iterate 2 refine pf ?_
 refine aC ?_;have bH:=ae (show dE op P (k == 1)=(decide (cZ P<cZ op) || (cZ P == cZ op && k == 1)) from rfl);generalize cZ P=x at *;generalize cZ op=y at *;by_cases ac:x<y
 .have a2:=ae (show dE op P (k == 1)=true by rw[bH.o];simp[ac]);clear bH;exact sF
 have q1:decide (x<y)=false:=by simpa using ac
 by_cases ax:x=y
 .have cO:(x == y)=true:=by simpa using ax
  by_cases a1:k=1
  .have a2:=ae (show dE op P (k == 1)=true by rw[bH.o];simp[ax,a1]);have da:((k:Int) == 1)=true:=by simp;omega
   have a:(k == 1)=true:=by simp;omega
   clear bH ac ax a1;exact sF
  .have a2:=ae (show dE op P (k == 1)=false by rw[bH.o];simp[ax,a1]);have da:((k:Int) == 1)=false:=by simp;omega
   have a:(k == 1)=false:=by simp;omega
   clear bH ac ax a1;exact sF
 .have cO:(x == y)=false:=by simpa using ax
  have a2:=ae (show dE op P (k == 1)=false by rw[bH.o];simp[ac,ax]);clear bH ac ax;exact sF
theorem kE:cm prog 171 9 (.string ⟨#[]⟩) 1 16:=cm.mk' Tryz.underlying171 (by kernel_rfl) rfl ad
def bW(x:VE):List UInt8:=aV (cq x)
def gI(op:Int)(k:Nat)(y:VE):List UInt8:=aV (par (dE op (a2 y) (k == 1)) (cq y))
def gM:VE->List (List UInt8)
 | .un op x=>[gI op 0 x]
 | .bin op x y=>[gI op 0 x,gI op 1 y]
 | _=>[]
theorem xY(op:Int)(k:Nat)(y:VE):gI op k y=if dE op (a2 y) (k == 1) then 40::(bW y++[41]) else bW y:=by
 unfold gI par bW;split
 .rw[a1,a9];rfl
 .rfl
theorem xZ(op:Int)(k:Nat)(y:VE):(bW y).length<=(gI op k y).length:=by
 rw[xY];split<;>simp
 omega
theorem yy(op:Int)(x:VE):bW (.un op x)=(if op=3 then 45 else 33)::gI op 0 x:=by
 unfold bW cq gI;rw[a1];split<;>rfl
theorem vm(op:Int)(x y:VE):bW (.bin op x y)=gI op 0 x++32::(g3 op++32::gI op 1 y):=by
 unfold bW cq gI;rw[a9,a1,a1,a1];rfl
theorem kF(x:VE){t:List UInt8}(h:(gM x)[k]?=some t):t.length<=(bW x).length:=by
 cases x with
 | un op x=>
  rw[yy]
  match k,h with
  | 0,h=>simp[gM] at h;subst h;simp
 | bin op x y=>
  rw[vm]
  match k,h with
  | 0,h=>simp[gM] at h;subst h;simp
  | 1,h=>simp[gM] at h;subst h;simp;omega
 | num n=>simp[gM] at h
 | ha n=>simp[gM] at h
 | loc n=>simp[gM] at h
 | iK n=>simp[gM] at h
theorem mI(x:VE)(h:x.args[k]?=some y):(gM x)[k]?=some (gI x.a2 k y)/\k<=1:=by
 cases x with
 | un op x=>
  match k,h with
  | 0,h=>simp[VE.args] at h;subst h;simp[gM,VE.a2]
 | bin op x y=>
  match k,h with
  | 0,h=>simp[VE.args] at h;subst h;simp[gM,VE.a2]
  | 1,h=>simp[VE.args] at h;subst h;simp[gM,VE.a2]
 | num n=>simp[VE.args] at h
 | ha n=>simp[VE.args] at h
 | loc n=>simp[VE.args] at h
 | iK n=>simp[VE.args] at h
theorem yL(x:VE):(gM x).length=x.args.length:=by cases x<;>rfl
theorem tW(x:VE):x.args.length<=2:=by cases x<;>simp[VE.args]
theorem qX{N:Ml}{d:Nat}(h:x.src N (d+1))(bb:x.args[k]?=some y):y.src N d:=by
 cases x with
 | un op x=>
  match k,bb with
  | 0,bb=>simp[VE.args] at bb;subst bb;exact h.2
 | bin op x y=>
  match k,bb with
  | 0,bb=>simp[VE.args] at bb;subst bb;exact h.2.1
  | 1,bb=>simp[VE.args] at bb;subst bb;exact h.2.2
 | num n=>simp[VE.args] at bb
 | ha n=>simp[VE.args] at bb
 | loc n=>simp[VE.args] at bb
 | iK n=>simp[VE.args] at bb
theorem qY{N:Ml}(h:x.src N 0):x.args=[]:=by
 cases x with
 | un op x=>exact h.elim
 | bin op x y=>exact h.elim
 | num n=>rfl
 | ha n=>rfl
 | loc n=>rfl
 | iK n=>rfl
theorem Gx{i:Nat}(h:5<=op/\op<=17)(al:(n9 (cZ op).toNat)[i]?=some op):(IB (cZ op).toNat)[i]?=some (strOf (g3 op)):=by
 obtain⟨ac,ax⟩:=h;obtain rfl|rfl|rfl|rfl|rfl|rfl|rfl|rfl|rfl|rfl|rfl|rfl|rfl:op=5\/op=6\/op=7\/op=8\/op=9\/op=10\/op=11\/op=12\/op=13\/op=14\/op=15\/op=16\/op=17:=ad
 all_goals
  match i,al with
  | 0,al=>first|rfl|(exact absurd al (by decide))
  | 1,al=>first|rfl|(exact absurd al (by decide))
  | 2,al=>first|rfl|(exact absurd al (by decide))
  | 3,al=>first|rfl|(exact absurd al (by decide))
  | 4,al=>first|rfl|(exact absurd al (by decide))
  | 5,al=>first|rfl|(exact absurd al (by decide))
  | i+6,al=>simp[n9,na,cZ] at al
theorem ve(h:5<=op/\op<=17):∃k:Nat,k<=4/\cZ op=k/\op∈n9 k:=by
 obtain⟨ac,ax⟩:=h;obtain rfl|rfl|rfl|rfl|rfl|rfl|rfl|rfl|rfl|rfl|rfl|rfl|rfl:op=5\/op=6\/op=7\/op=8\/op=9\/op=10\/op=11\/op=12\/op=13\/op=14\/op=15\/op=16\/op=17:=ad
 all_goals first|exact⟨0,ad,rfl,by decide⟩|exact⟨1,ad,rfl,by decide⟩|exact⟨2,ad,rfl,by decide⟩|exact⟨3,ad,rfl,by decide⟩|exact⟨4,ad,rfl,by decide⟩
def zR(x:VE):Prop:=∀(op n:Int) (s:ByteArray) (A:Mk) (m c:Nat) (w:World),(bk x).rep w (av w) [.int .i64 op,.int .i64 n,.string s,.slice A m c]->(bW x).length<=262144->
 Calls prog 146 #[.agg #[.int .i64 op,.int .i64 n,.string s,.slice A m c]] w λe ab=>e=.returned (.string (strOf (bW x)))/\Ext w ab
theorem xh{l:List (List UInt8)}{t:List UInt8}(h:l[k]?=some t):(l.take (k+1)).map (λt=>Value.string (strOf t))=(l.take k).map (λt=>Value.string (strOf t))++[Value.string (strOf t)]:=by
 rw[List.take_add_one,h,LJ];rfl
theorem Eb(l:Ml):l.flatMap oQ=l.map Value.string:=by
 induction l with
 | nil=>rfl
 | cons a l aq=>rw[LY,aq];rfl
theorem zr{A:Mk}{c:Nat}{l:List (List UInt8)}(h:w.ownsRow base e 1 (.slice A n c) n (l.map λt=>Value.string (strOf t)))(hl:l.length=n):cA (EF oQ) 1 w w.heap.size A n (l.map strOf):=
 hy (f:=oQ) (l:=l.map strOf) (by rw[Eb,List.map_map];exact h) (λ_ _=>rfl) (by rw[LG];exact hl)
structure pK(w wr:World)(x:VE)(A:Mk)(m c:Nat):Prop where
 ext:Ext w wr
 blk:ao wr w.heap.size 56 #[.int .i64 x.a2,.int .i64 x.numOf,.string x.bt,.slice A m c]
 args:Sl wr (av w) A m (x.args.map bk)
theorem pK.on{w wr ab:World}{x:VE}{A:Mk}{m c:Nat}(h:pK w wr x A m c)(O:Fr (λb=>w.heap.size<b) wr ab):pK w ab x A m c:=
 ⟨⟨O.os.trans h.ext.os,O.tape.trans h.ext.tape,O.output.trans h.ext.output,LU h.ext.size O.size,λk aj hn=>(O.block k (LC aj h.ext.size) ad).trans (h.ext.block k aj hn)⟩,
  h.blk.on O ad,h.args.ak λb ap=>O.block b (LC ap h.ext.size) (by have:b<w.heap.size:=ap;omega)⟩
theorem Ia{sz:Nat}{v:Value}{xs:List Value}(az:w.ownsRow base e sz v n xs)(aY:w.grownBy ab v.ownBlock)(O:∀g,base<=g->M g):Fr M w ab:=
 (Fr.refl M w).grown aY λk aj=>.inl (O k (az.lt k aj).1)
theorem Ext.fr(h:Ext w ab):Fr M w ab:=h.mono λ_ h=>h.elim
namespace B8
theorem pM(h:p:=by
 have ay:m<=2:=by rw[<-hs.1,LG];exact tW x
 have bY:(gM x).length=m:=by rw[yL,<-hs.1,LG]
 obtain⟨bA,bM,cM,aR,F⟩:=DG bY hs aq hx hlen;clear a9 hs aq hx hlen bY;go_enter func146,ntmps146;go_wp2;generalize bd:World.alloc _ _=W;have hT:pK w W x A m c:=by
  have aF:=aZ bd;exact⟨aF,by rw[<-bd];exact Mh,bM.ak λb ap=>aF.block b ap (λh=>h)⟩
 have Q:=ae hT;clear bd hT;go_loopw [3,4] (λsv L wr=>∃k:Nat,k<=m/\L=.int .i64 k/\pK w wr x A m c/\wr.ownsRow (w.heap.size+1) 9 1 sv k (((gM x).take k).map λt=>Value.string (strOf t))) (λ_ L _=>m - (intOf L).toNat)
 case atStart=>exact⟨0,ad,rfl,Q.o,by simp,.inl ⟨rfl,rfl⟩⟩
 case round=>
  obtain⟨k,aj,rfl,hT,az⟩:=hrel;clear Q;obtain⟨bE,bw,rfl,dY,_,_,_⟩:=bH az;obtain⟨Q,a5⟩:=aH hT az;obtain⟨a0,ak,af⟩:=hT.blk.two;clear hT az;by_cases ap:k<m
  .obtain⟨b,o,y,cs,rfl,O,bb,aa,bq,Z⟩:=Q.args.g9 db ap
   match cs,bq with
   | [b1,cn,cm,bv],_=>
   have c0:=Z 0 b1 rfl;have c1:=Z 1 cn rfl;have c2:=Z 2 cm rfl;have c3:=Z 3 bv rfl;simp only[LM] at c0;have a4:b<wr.heap.size:=LC O Q.ext.size;clear Z O;obtain⟨B,br,bc,e,cv,ci⟩:=aX.1 aa;simp only[List.cons.injEq,and_true] at e;obtain⟨rfl,rfl,rfl,rfl⟩:=e;have bF:=ae bb;have H:=ae (D.aK (cW:=av wr) (λb ap=>LC ap Q.ext.size) _ _ aa);clear bb aa ci;go_wp2_with(fail);refine(cM.o k y bF.o _ _ _ _ _ _ wr H.o ?_).mono ?_
   .exact LU (xZ x.a2 k y) (LU (kF x (mI x bF.o).1) F.o)
   rintro e aP ⟨rfl,ar⟩;have b7:=(mI x bF.o).2;have ab:=ae (Q.on ar.fr);have d0:=(ar.cell (j:=o+k*4) a4 (λh=>h)).trans c0;have bX:b<aP.heap.size:=LC a4 ar.size;have ai:=ae (bR a5.o (Fr.ext ar));clear Q a5 a0 ak af c0 c1 c2 c3 ar a4;obtain⟨a0,ak,af⟩:=ab.blk.two;go_wp2_with(fail);refine(r2 x.a2 x.numOf y.a2 x.bt b o m c k aP b7 ap bX d0).mono ?_;rintro e aW ⟨rfl,bL⟩;have l:=ae (ab.on bL.fr);have bf:=ae (bR ai.o (Fr.ext bL));clear ab ai a0 ak af d0 bX bL;obtain⟨a0,ak,af⟩:=l.blk.two;have HA:=ae (xY x.a2 k y);have X:=ae (mI x bF.o).1;have aG:(strOf (bW y)).size<=262144:=by
    rw[aM];exact LU (xZ x.a2 k y) (LU (kF x (mI x bF.o).1) F.o)
   rw[<-Gc] at *;have ci:w.heap.size+1<=aW.heap.size:=l.blk.lt;by_cases al:dE x.a2 y.a2 (k == 1)=true
   .rw[al];have S:=ae (show (⟨#[40]⟩:ByteArray)++strOf (bW y)++⟨#[41]⟩=strOf (gI x.a2 k y) by
     rw[HA.o,if_pos al,show (⟨#[40]⟩:ByteArray)=strOf [40] from rfl,show (⟨#[41]⟩:ByteArray)=strOf [41] from rfl,ag,ag];simp)
    clear al HA;exact Ha
   .have r:dE x.a2 y.a2 (k == 1)=false:=by simpa using al
    rw[r];have S:=ae (show strOf (bW y)=strOf (gI x.a2 k y) by rw[HA.o,if_neg al]);clear al r HA;exact Ha
  .have M:k=m:=ad;subst M;have a2:=ae (zr (by
    have:=a5.o;rw[<-bA.o,List.take_length] at this;rw[<-bA.o];exact this) bA.o)
   have bj:=ae Q.ext;clear a5 cM;have hf:decide ((k:Int)<(k:Int))=false:=by simp
   cases x with
   | num n=>
    have hn:0<=n/\n<4611686018427387904:=by have:=aR.o;cases d<;>exact this
    have ca:=ae (show lX n=bW (.num n) by rw[vx hn.1];simp[bW,cq,aV,Atom.bytes]);have O:=mr n wr ad;simp only[VE.a2,VE.numOf,VE.bt] at *;clear hf;go_wp2_with(fail);refine O.mono ?_;rintro e aP ⟨rfl,ar⟩;have bu:=ae (bj.trans (Fr.of ar));clear ar O;go_wp2;go_ret
    exact⟨ret_str (by rw[ca.o]),bu.o⟩
   | ha s=>
    simp only[VE.a2,VE.numOf,VE.bt] at *;have ca:=ae (show s=strOf (bW (.ha s)) by simp[bW,cq,aV,Atom.bytes,strOf]);go_wp2;go_ret
    exact⟨ret_str ca.o,bj.o⟩
   | loc j=>exact(by have:=aR.o;cases d<;>exact this:False).elim
   | iK j=>exact(by have:=aR.o;cases d<;>exact this:False).elim
   | un op y=>
    obtain rfl:k=1:=bA.symm;obtain⟨b,o,z,rfl,O,aG,hc⟩:=a2.str (k:=0) ad;have P:strOf (gI op 0 y)=z:=by simpa[gM] using aG
    subst P;have U:(strOf (gI op 0 y)).size<=262144:=by
     rw[aM];exact LU (kF (.un op y) (k:=0) rfl) F.o
    have co:op=3\/op=4:=by
     cases d with
     | zero=>exact aR.elim
     | succ d=>exact aR.1
    have l:=ae (yy op y);simp only[LM] at hc;clear aG aR Q F bA ay cG hf af dY;rcases co with rfl|rfl
    .have ca:=ae (show (⟨#[45]⟩:ByteArray)++strOf (gI 3 0 y)=strOf (bW (.un 3 y)) by rw[l.o,if_pos rfl];exact ag [45] _);clear l;generalize gI 3 0 y=t at *;exact Aa
    .have ca:=ae (show (⟨#[33]⟩:ByteArray)++strOf (gI 4 0 y)=strOf (bW (.un 4 y)) by rw[l.o,if_neg ad];exact ag [33] _);clear l;generalize gI 4 0 y=t at *
     exact Aa
   | bin op y z=>
    obtain rfl:k=2:=bA.symm;obtain⟨b,o,a6,rfl,O,Y,u⟩:=a2.str (k:=0) ad;obtain⟨R,au,cU,e,_,bP,cN⟩:=a2.str (k:=1) ad;simp only[Mb,Addr.mk.injEq,and_true] at e;obtain⟨rfl,rfl⟩:=e;have P:strOf (gI op 0 y)=a6:=by simpa[gM] using Y
    have an:strOf (gI op 1 z)=cU:=by simpa[gM] using bP
    subst P an;have aI:(strOf (gI op 0 y)).size<=262144:=by
     rw[aM];exact LU (kF (.bin op y z) (k:=0) rfl) F.o
    have hp:(strOf (gI op 1 z)).size<=262144:=by
     rw[aM];exact LU (kF (.bin op y z) (k:=1) rfl) F.o
    have co:5<=op/\op<=17:=by
     cases d with
     | zero=>exact aR.elim
     | succ d=>exact aR.1
    have ca:=ae (show ((strOf (gI op 0 y)++⟨#[32]⟩)++strOf (g3 op))++⟨#[32]⟩++strOf (gI op 1 z)=strOf (bW (.bin op y z)) by
     rw[vm,show (⟨#[32]⟩:ByteArray)=strOf [32] from rfl,ag,ag,ag,ag];simp)
    have bD:(strOf (g3 op)).size<=2:=by
     rw[aM];unfold g3
     repeat' split
     all_goals simp
    have o1:(op == 1)=false:=by simp;omega
    have fk:(op == 2)=false:=by simp;omega
    have o3:(op == 3)=false:=by simp;omega
    have o4:(op == 4)=false:=by simp;omega
    obtain⟨b8,cu,bo,ct⟩:=ve co;have ax:=ae (λ(i:Nat)=>Gx (i:=i) co);obtain⟨V,b2⟩:=aH ct bo;simp only[LM] at u;clear Y bP aR F bA ay cG hf af dY a2 ct co;generalize strOf (gI op 0 y)=t0 at *;generalize strOf (gI op 1 z)=t1 at *;generalize strOf (g3 op)=sg at *;simp only[VE.a2,VE.numOf,VE.bt] at *;go_wp2_with(fail);refine(gE op wr).mono ?_;rintro e aP ⟨rfl,ar⟩;rw[bo];go_wp2_with(fail);refine(sj b8 cu aP).mono ?_;rintro e aW ⟨bE,ac,n,hn,rfl,hs,bn,bL⟩;have q:=ar.trans bL;have a7:=ae (bj.trans q);have e0:=(q.cell (j:=o) O (λh=>h)).trans u;have e1:=(q.cell (j:=o+1) O (λh=>h)).trans cN;have bg:b<aW.heap.size:=LC O q.size;have l:=ae (Q.on (Ext.fr q));obtain⟨a8,am,aJ⟩:=l.blk.two;simp only[VE.a2,VE.numOf,VE.bt] at a8;have a5:=ah hs bn;clear hs bn ar bL q u cN O a0 ak Q bj bo;go_wp2_with(fail);go_loopw [8] (λcw wr=>∃j:Nat,j<=n/\cw=.int .i64 j/\(∀(i:Nat) (x:Int),i<j->(n9 b8)[i]?=some x->x≠op)/\Ext aW wr) (λcw _=>n - (intOf cw).toNat)
    case atStart=>exact⟨0,ad,rfl,λi x h=>ad,Mg⟩
    case round=>
     obtain⟨j,bi,rfl,bl,bT⟩:=hrel;obtain⟨bI,ba⟩:=aH bl bT;obtain⟨v0,aw⟩:=Fr.tG bT;clear bl bT;by_cases K:j<n
     .obtain⟨c1,aK,x,rfl,aQ,hx,aA⟩:=a5.2.int K;obtain⟨c2,aL,gH,rfl,aC,c9,T⟩:=a5.1.str K;have aR:=ae hx;by_cases rj:x=op
      .subst rj;have G:=ax.o j (by rw[b2.o];exact hx);rw[b2.o,LZ,c9] at G;injection G with G;subst G;clear hx c9;go_wp2;go_quiet (fail)
       go_wp2;go_quiet (fail)
       go_wp2;go_ret;exact⟨ret_str ca.o,a7.trans ((ba.drewN _).drewN _)⟩
      .have q1:(x == op)=false:=by simpa using rj
       have J:=ae rj;clear rj hx c9;go_wp2;go_quiet (fail)
       go_wp2
       go_round
       case rel=>refine⟨j+1,ad,by go_num,λi y al bb=>?_,?_⟩;rotate_left;exact ba.drewN _;exact(by
        by_cases v:i=j
        .subst v;rw[aR.o] at bb;injection bb with bb;subst bb;exact J.o
        .exact bI.o i y ad bb)
       case measure=>exact aE
     .exfalso;obtain⟨i,al⟩:=List.getElem?_of_mem V.o;have ap:=(List.getElem?_eq_some_iff.1 al).1;have hl:=a5.2.1;exact bI.o i op ad al rfl
 ):p:=h
end B8
open B8 in
theorem so(N:Ml)(d:Nat)(x:VE)(hx:x.src N d)(aq:∀(k:Nat) (y:VE),x.args[k]?=some y->zR y):zR x:=by
 intro op n s A m c w a9 hlen;exact pL
theorem jT(N:Ml):∀(d:Nat) (x:VE),x.src N d->zR x
 | 0,x,h=>so N 0 x h λk y bb=>by rw[qY h] at bb;simp at bb
 | d+1,x,h=>so N (d+1) x h λk y bb=>jT N d y (qX h bb)
def gh(r:eW):List UInt8:=aV (iD r)
theorem xi(h:r.idx=none):gh r=r.name.data.toList:=by
 unfold gh iD;rw[h];simp[aV,Atom.bytes]
theorem xj{e:VE}(h:r.idx=some e):gh r=r.name.data.toList++91::(bW e++[93]):=by
 unfold gh iD bW;rw[h];simp[aV,Atom.bytes]
theorem jG:(kL r).rep w P cs↔∃A n c,cs=[.string r.name,.slice A n c]/\n<=c/\Sl w P A n (r.idx.toList.map bk):=by
 unfold kL;rw[bJ,ct];constructor
 .rintro⟨y,rfl,h⟩;obtain⟨A,n,c,bv,rfl,hc,hs,a1⟩:=aL.1 h;exact xR
 .rintro⟨A,n,c,rfl,hc,hs⟩;exact vH
def E5(r:eW):Prop:=∀e,r.idx=some e->∃N d,e.src N d
theorem df(s:ByteArray):strOf s.data.toList=s:=by simp[strOf]
namespace B9
theorem Av(h:p:=by
 refine pf ?_;refine aC ?_;go_wp2;go_ret;exact⟨ret_str ca.o,bj.trans (Fr.aF ar)⟩
 ):p:=h
end B9
open B9 in
theorem kY(r:eW)(aw:E5 r)(s:ByteArray)(A:Mk)(n c:Nat)(w:World)(a9:(kL r).rep w (av w) [.string s,.slice A n c])(hlen:(gh r).length<=262144) :
  Calls prog 148 #[.agg #[.string s,.slice A n c]] w λe ab=>e=.returned (.string (strOf (gh r)))/\Ext w ab:=by
 obtain⟨I,aQ,aD,e,aK,hs⟩:=jG.1 a9;simp only[List.cons.injEq,Value.string.injEq,Value.slice.injEq,and_true] at e;obtain⟨rfl,rfl,rfl,rfl⟩:=e
 cases al:r.idx with
 | none=>
  rw[al] at hs;obtain rfl:n=0:=hs.1.symm;have ca:=ae (show r.name=strOf (gh r) by rw[xi al,df]);clear al hs a9 hlen aw;go_enter func148,ntmps148;go_wp2;go_ret
  exact⟨ret_str ca.o,Mg.alloc _⟩
 | some x=>
  rw[al] at hs;obtain rfl:n=1:=hs.1.symm;obtain⟨N,d,hx⟩:=aw x al;obtain⟨b,o,bU,Z,bm,E,rfl,O,az,c0,c1,c2,c3⟩:=Sl.ED hs (db x);obtain⟨B,br,bc,e,cv,ci⟩:=aX.1 az;simp only[List.cons.injEq,and_true] at e;obtain⟨rfl,rfl,rfl,rfl⟩:=e;have a4:b<w.heap.size:=O;have Q:=ae (xj al);have Y:r.name.size<=262144:=by
   have:=hlen;rw[Q.o,LD] at this;have ax:r.name.size=r.name.data.toList.length:=rfl;omega
  have bP:(bW x).length<=262144:=by
   have:=hlen;rw[Q.o,LD] at this;simp at this;omega
  have ca:=ae (show r.name++⟨#[91]⟩++strOf (bW x)++⟨#[93]⟩=strOf (gh r) by
   rw[Q.o,show (⟨#[91]⟩:ByteArray)=strOf [91] from rfl,show (⟨#[93]⟩:ByteArray)=strOf [93] from rfl];conv=>lhs;rw[<-df r.name]
   rw[ag,ag,ag];simp)
  have bh:=ae bP;have cV:(strOf (bW x)).size<=262144:=by rw[aM];exact bP
  have aR:=ae (jT N d x hx);have H:=ae az;clear al hs a9 hlen aw Q az ci O bP hx;go_enter func148,ntmps148;go_wp2;generalize bd:World.alloc _ _=W;have aF:=aZ bd;obtain⟨a0,ak,af⟩:=(show ao W w.heap.size 185 #[.string r.name,.slice (some ⟨b,o,none⟩) 1 c] by rw[<-bd];exact Mh).two;have d0:=(aF.cell (j:=o) a4 (λh=>h)).trans c0;have d1:=(aF.cell (j:=o+1) a4 (λh=>h)).trans c1;have d2:=(aF.cell (j:=o+2) a4 (λh=>h)).trans c2;have d3:=(aF.cell (j:=o+3) a4 (λh=>h)).trans c3;have f:b<W.heap.size:=LC a4 aF.size;have bj:=ae aF;clear bd aF c0 c1 c2 c3 a4;refine eK (λ_=>False) [(0,3),(1,0),(2,3),(3,3),(4,0),(5,3),(6,0),(7,1),(8,3),(9,3),(10,3)] ?_;refine pf ?_;refine ph ?_;refine bp (v:=?_) rfl (by rfl) (λV=>?_) ?_;rotate_left
  .go_simp;exact er
  try simp only[PU]
  refine pf ?_;refine ph ?_;refine pf ?_;refine ph ?_;refine aI rfl (λK hK=>?_);go_simp;refine(aR.o _ _ _ _ _ _ _ (D.on H.o (Fr.ext bj.drew)) bh.o).mono ?_;exact Au
def oJ(a:dj):List UInt8:=aV (fP a)
def jr(l:List dj):List UInt8:=40::aV (eh (l.map fP))
def h6(l:List dj):List UInt8:=aV (jd l)
theorem sn(l:List dj):h6 l=jr l++[41]:=by
 unfold h6 jd jr;rw[a1,a9];rfl
theorem mj:∀(l:List (List Atom)) (a:List Atom),eh (l++[a])=if l=[] then a else eh l++(.sg [44]::.ws 32::a)
 | [],a=>rfl
 | [b],a=>by simp[eh]
 | b::d::l,a=>by
  have aq:=mj (d::l) a;rw[if_neg (by simp)] at aq;rw[if_neg (by simp)];show eh (b::d::(l++[a]))=_
  simp only[eh];rw[LR] at aq;rw[aq];simp
theorem rH{aT:List dj}{a:dj}(h:aT[k]?=some a):jr (aT.take (k+1))=jr (aT.take k)++((if 0<k then [44,32] else [])++oJ a):=by
 have aj:k<aT.length:=(List.getElem?_eq_some_iff.1 h).1;unfold jr oJ;rw[List.take_add_one,h,LJ];show (40:UInt8)::aV (eh (List.map fP (List.take k aT)++[fP a]))=_
 rw[mj];by_cases h0:0<k
 .rw[if_neg (by intro e;have:=congrArg List.length e;simp only[LG,List.length_take,LX] at this;omega),if_pos h0,a9,a1,a1];simp[Atom.bytes]
 .obtain rfl:k=0:=ad;simp[eh,aV]
theorem yI(aT:List dj)(k:Nat):(jr (aT.take k)).length<=(jr (aT.take (k+1))).length:=by
 cases h:aT[k]? with
 | none=>rw[LK (i:=k+1) (by have:=List.getElem?_eq_none_iff.1 h;omega),LK (List.getElem?_eq_none_iff.1 h)];exact Lz _
 | some a=>rw[rH h];simp
theorem xT(aT:List dj):∀j k:Nat,(jr (aT.take k)).length<=(jr (aT.take (k+j))).length
 | 0,k=>Lz _
 | j+1,k=>LU (xT aT j k) (yI aT (k+j))
theorem tV(aT:List dj)(aj:k<=aT.length):(jr (aT.take k)).length<=(h6 aT).length:=by
 have:=xT aT (aT.length - k) k;rw[show k+(aT.length - k)=aT.length by omega,List.take_length] at this;rw[sn];simp;omega
def Gy:dj->Prop
 | .mx r=>E5 r
 | .ex e=>∃N d,e.src N d
theorem s3(a:dj):(eO a).sz=7:=by
 cases a with
 | mx r=>rfl
 | ex e=>show D.zy [.b false,gj,bk e]=7;simp only[D.zy,db,D.sz,gj]
theorem dG{d:D}{l:List D}:D.aO w P (d::l) cs↔∃x y,cs=x++y/\d.rep w P x/\D.aO w P l y:=by simp only[D.aO]
theorem FT(h:(eO (.mx r)).rep w P cs):∃s A n c e0 e1 e2 e3,cs=[.bool true,.string s,.slice A n c,e0,e1,e2,e3]/\(kL r).rep w P [.string s,.slice A n c]:=by
 unfold eO at h;rw[bJ,fB] at h;obtain⟨y,rfl,h⟩:=h;obtain⟨x,cm,rfl,hx,bb⟩:=dG.1 h;obtain⟨A,n,c,rfl,hc,hs⟩:=jG.1 hx;rw[D.bw] at bb;obtain⟨A2,c2,rfl⟩:=fv.1 bb;exact⟨_,A,n,c,_,_,_,_,rfl,hx⟩
namespace Ca
theorem vV(h:p:=by
 obtain⟨A,n,c,cy,rfl,_,_,aG⟩:=aL.1 hx;rw[aQ] at aG;subst aG;exact z1
 ):p:=h
end Ca
open Ca in
theorem FR{e:VE}(h:(eO (.ex e)).rep w P cs):∃bp r1 op n s A m c,cs=[.bool false,bp,r1,.int .i64 op,.int .i64 n,.string s,.slice A m c]/\(bk e).rep w P [.int .i64 op,.int .i64 n,.string s,.slice A m c]:=by
 exact vU
theorem sS(aT:List dj)(aw:∀a∈aT,Gy a)(A:Mk)(n c:Nat)(w:World)(hs:Sl w (av w) A n (aT.map eO))(hlen:(h6 aT).length<=262144)(hn:n<=1000) :
  Calls prog 147 #[.slice A n c] w λe ab=>e=.returned (.string (strOf (h6 aT)))/\Ext w ab:=by
 have hl:aT.length=n:=by rw[<-hs.1,LG]
 obtain⟨b2,bM,bD,F⟩:=jc hl hs aw hlen;clear hs aw hlen hl;go_enter func147,ntmps147;go_wp2;go_loopw [3,4] (λsv L wr=>∃k:Nat,k<=n/\L=.int .i64 k/\sv=.string (strOf (jr (aT.take k)))/\Ext w wr) (λ_ L _=>n - (intOf L).toNat)
 case atStart=>exact⟨0,ad,rfl,rfl,Mg⟩
 case round=>
  obtain⟨k,aj,rfl,rfl,aF⟩:=hrel;have bj:=ae aF;clear aF;have aG:(strOf (jr (aT.take k))).size<=262144:=by
   rw[aM];exact LU (tV aT (by rw[b2.o];exact aj)) F.o
  by_cases ap:k<n
  .obtain⟨b,o,a,cs,rfl,O,br,ah,bq,Z⟩:=(bM.on (Fr.ext bj.o)).g9 s3 ap;have a4:b<wr.heap.size:=O;have HA:=ae br;have i:=ae (rH br);have ca:=ae (bD.o a (LF br));have cw:(oJ a).length<=262144:=by
    have ac:=tV aT (k:=k+1) (by rw[b2.o];exact ap);rw[i.o] at ac;have ax:=F.o;simp at ac;omega
   have f:=ae cw;have cV:(strOf (oJ a)).size<=262144:=by rw[aM];exact cw
   clear br cw O
   cases a with
   | mx r=>
    obtain⟨s,cc,bZ,rc,e0,e1,e2,e3,rfl,aA⟩:=FT ah;have c0:=Z 0 _ rfl;have c1:=Z 1 _ rfl;have c2:=Z 2 _ rfl;simp only[LM] at c0;have I:=ae aA;clear Z ah aA;have l:=ae (show oJ (.mx r)=[109,117,116,101,120,32]++gh r by
     unfold oJ fP gh;rw[a1,a1];simp[kw,ga,Atom.bytes])
    have t:(gh r).length<=262144:=by
     have:=f.o;rw[l.o] at this;simp at this;omega
    have j:=ae t;have G:(strOf (gh r)).size<=262144:=by rw[aM];exact t
    clear t;by_cases h0:0<k
    ·
     have q:decide ((k:Int) > 0)=true:=by simp;omega
     have S:=ae (show strOf (jr (aT.take k))++⟨#[44,32]⟩++⟨#[109,117,116,101,120,32]⟩++strOf (gh r)=strOf (jr (aT.take (k+1))) by
      rw[i.o,if_pos h0,l.o,show (⟨#[44,32]⟩:ByteArray)=strOf [44,32] from rfl,show (⟨#[109,117,116,101,120,32]⟩:ByteArray)=strOf [109,117,116,101,120,32] from rfl,ag,ag,ag]
      try simp)
     go_wp2_with(fail);refine(kY r ca.o s cc bZ rc wr I.o j.o).mono ?_;rintro e aP ⟨rfl,ar⟩;have bu:=ae (bj.trans ar);clear ar c0 c1 c2 bj;exact xK
    ·
     have q:decide ((k:Int) > 0)=false:=by simp;omega
     have S:=ae (show strOf (jr (aT.take k))++⟨#[109,117,116,101,120,32]⟩++strOf (gh r)=strOf (jr (aT.take (k+1))) by
      rw[i.o,if_neg h0,l.o,show (⟨#[109,117,116,101,120,32]⟩:ByteArray)=strOf [109,117,116,101,120,32] from rfl,ag,ag]
      try simp)
     go_wp2_with(fail);refine(kY r ca.o s cc bZ rc wr I.o j.o).mono ?_;rintro e aP ⟨rfl,ar⟩;have bu:=ae (bj.trans ar);clear ar c0 c1 c2 bj
     exact xK
   | ex x=>
    obtain⟨bp,r1,op,bn,s,EA,em,ec,rfl,g⟩:=FR ah;have c0:=Z 0 _ rfl;have c1:=Z 3 _ rfl;have c2:=Z 4 _ rfl;have c3:=Z 5 _ rfl;have u:=Z 6 _ rfl;simp only[LM] at c0;have m:=ae g;have G:(strOf (bW x)).size<=262144:=cV;obtain⟨N,d,hx⟩:=ca.o;have aR:=ae (jT N d x hx);clear Z ah g hx ca;by_cases h0:0<k
    ·
     have q:decide ((k:Int) > 0)=true:=by simp;omega
     have S:=ae (show strOf (jr (aT.take k))++⟨#[44,32]⟩++strOf (bW x)=strOf (jr (aT.take (k+1))) by
      rw[i.o,show oJ (.ex x)=bW x from rfl,if_pos h0,show (⟨#[44,32]⟩:ByteArray)=strOf [44,32] from rfl,ag,ag]
      try simp)
     go_wp2_with(fail);refine(aR.o op bn s EA em ec wr m.o f.o).mono ?_;rintro e aP ⟨rfl,ar⟩;have bu:=ae (bj.trans ar);clear ar c0 c1 c2 c3 u bj;exact xK
    ·
     have q:decide ((k:Int) > 0)=false:=by simp;omega
     have S:=ae (show strOf (jr (aT.take k))++strOf (bW x)=strOf (jr (aT.take (k+1))) by
      rw[i.o,show oJ (.ex x)=bW x from rfl,if_neg h0,ag]
      try simp)
     go_wp2_with(fail);refine(aR.o op bn s EA em ec wr m.o f.o).mono ?_;rintro e aP ⟨rfl,ar⟩;have bu:=ae (bj.trans ar);clear ar c0 c1 c2 c3 u bj;exact xK
  .obtain rfl:k=n:=ad;have S:=ae (show strOf (jr (aT.take k))++⟨#[41]⟩=strOf (h6 aT) by
    rw[sn,<-b2.o,List.take_length,<-ag];rfl)
   go_wp2;go_ret;exact⟨ret_str S.o,bj.o⟩
inductive az where
 | set (v:Bool) (n:ByteArray) (e:VE)
 | call (g:Bool) (n:ByteArray) (aT:List dj)
 | lock (u:Bool) (r:eW)
 | ite (e:VE) (th el:al)
 | gG (e:VE) (th:al)
 | ret
def al.list:al->List az
 | .nil=>[]
 | .set v n e rest=>.set v n e::rest.list
 | .call g n aT rest=>.call g n aT::rest.list
 | .lock u r rest=>.lock u r::rest.list
 | .ite e th el rest=>.ite e th el::rest.list
 | .gG e th rest=>.gG e th::rest.list
 | .ret rest=>.ret::rest.list
def bg:az->D
 | .set v n e=>gP (if v then 1 else 2) n (bk e) gj [] [] []
 | .call g n aT=>gP (if g then 4 else 3) n jX gj (aT.map eO) [] []
 | .lock u r=>gP (if u then 6 else 5) ⟨#[]⟩ jX (kL r) [] [] []
 | .ite e th el=>gP 7 ⟨#[]⟩ (bk e) gj [] (c7 th) (c7 el)
 | .gG e th=>gP 8 ⟨#[]⟩ (bk e) gj [] (c7 th) []
 | .ret=>gP 9 ⟨#[]⟩ jX gj [] [] []
theorem cH:∀b:al,c7 b=b.list.map bg
 | .nil=>rfl
 | .set v n e rest=>by simp only[c7,al.list,LI,bg,cH rest]
 | .call g n aT rest=>by simp only[c7,al.list,LI,bg,cH rest]
 | .lock u r rest=>by simp only[c7,al.list,LI,bg,cH rest]
 | .ite e th el rest=>by simp only[c7,al.list,LI,bg,cH rest]
 | .gG e th rest=>by simp only[c7,al.list,LI,bg,cH rest]
 | .ret rest=>by simp only[c7,al.list,LI,bg,cH rest]
def dA(t:Nat):az->List UInt8
 | .set v n e=>List.replicate t 9++((if v then [118,97,114,32] else [])++(n.data.toList++([32,61,32]++(bW e++[59,10]))))
 | .call g n aT=>List.replicate t 9++((if g then [103,111,32] else [])++(n.data.toList++(h6 aT++[59,10])))
 | .lock u r=>List.replicate t 9++((if u then [117,110,108,111,99,107,32] else [108,111,99,107,32])++(gh r++[59,10]))
 | .ite e th el=>List.replicate t 9++([105,102,32]++(bW e++([32,123,10]++(aV (aW (t+1) th)++(List.replicate t 9++([125] ++
   ((if el.isNil then [] else [32,101,108,115,101,32,123,10]++(aV (aW (t+1) el)++(List.replicate t 9++[125])))++[10])))))))
 | .gG e th=>List.replicate t 9++([119,104,105,108,101,32]++(bW e++([32,123,10]++(aV (aW (t+1) th)++(List.replicate t 9++[125,10])))))
 | .ret=>List.replicate t 9++[114,101,116,117,114,110,59,10]
def cF(t:Nat)(b:al):List UInt8:=aV (aW t b)
theorem fS(t:Nat):aV (fK t)=List.replicate t 9:=by
 induction t with
 | zero=>rfl
 | succ t aq=>unfold fK at *;rw[List.replicate_succ,a1,aq];rfl
theorem rM:aV []=[]:=rfl
theorem e5(t:Nat):∀b:al,cF t b=(b.list.map (dA t)).flatten
 | .nil=>rfl
 | .set v n e rest=>by
  have aq:=e5 t rest;unfold cF at *;simp only[aW,al.list,LI,List.flatten_cons,<-aq,dA,a9,a1,fS,bW]
  cases v<;>simp[Atom.bytes,kw,aV]
 | .call g n aT rest=>by
  have aq:=e5 t rest;unfold cF at *;simp only[aW,al.list,LI,List.flatten_cons,<-aq,dA,a9,a1,fS,h6]
  cases g<;>simp[Atom.bytes,kw,aV]
 | .lock u r rest=>by
  have aq:=e5 t rest;unfold cF at *;simp only[aW,al.list,LI,List.flatten_cons,<-aq,dA,a9,a1,fS,gh]
  cases u<;>simp[Atom.bytes,kw,aV]
 | .ite e th el rest=>by
  have aq:=e5 t rest;unfold cF at *;simp only[aW,al.list,LI,List.flatten_cons,<-aq,dA,a9,a1,fS,bW];cases hn:el.isNil
  .simp only[Me,if_false,a9,a1,fS];simp[Atom.bytes,kw,rM]
  .simp only[if_true]
   simp[Atom.bytes,kw,rM]
 | .gG e th rest=>by
  have aq:=e5 t rest;unfold cF at *;simp only[aW,al.list,LI,List.flatten_cons,<-aq,dA,a9,a1,fS,bW]
  simp[Atom.bytes,kw]
 | .ret rest=>by
  have aq:=e5 t rest;unfold cF at *;simp only[aW,al.list,LI,List.flatten_cons,<-aq,dA,a9,a1,fS];simp[Atom.bytes,kw]
end Go.Proofs.YtflecliffjbleaaGreat
