/- Part 11 of the proof. No condition of its own. -/
import Derived.Test.YtkhnkojkplbioaaGreatQ07
import Derived.Test.YtkhnkojkplbioaaGreatQ10
namespace Go.Proofs.YtkhnkojkplbioaaGreat
open Go.RowKit Go.Proofs.Tryz
set_option maxRecDepth 1000000
set_option maxHeartbeats 25600000
set_option linter.unusedVariables false
variable{op:Int}{l:List UInt8}{cs:List Value}{B N base g k m n:Nat}{M P:Nat->Prop}{p:Prop}{e t:TypeId}{x y:VE}{ab w:World}{r:eS}
def byteOf(v:Int):UInt8:=UInt8.ofNat v.toNat
theorem k0(W:World)(v:Int):(convert 143 9 (.slice (some ⟨W.heap.size,0,none⟩) 1 1)).run prog (W.alloc (.cells #[.int .u8 v] 5))=.ok (.string (strOf [byteOf v])) (W.alloc (.cells #[.int .u8 v] 5)):=by
 have:=run_convert_bytes_arg (P:=prog) (W.alloc (.cells #[.int .u8 v] 5)) 143 5 Tryz.underlying143 Tryz.underlying5 W.heap.size 0 1 1 [v] rfl (λi an=>by
  have:i=0:=ad;subst this;rw[(aq.new W 5 #[.int .u8 v]).cell];rfl) 9 Tryz.underlying9
 rw[this];rfl
theorem aO(l:List UInt8):(strOf l).size=l.length:=by simp[strOf,ByteArray.size]
theorem pV(m:Nat):byteOf (48+((m:Int) % 10))=UInt8.ofNat (48+m % 10):=by
 unfold byteOf;congr 1
theorem ret_str{a b:ByteArray}(h:a=b):Ending.returned (.string a)=.returned (.string b):=by rw[h]
theorem ah(a b:List UInt8):strOf a++strOf b=strOf (a++b):=by
 unfold strOf;rw[ByteArray.ext_iff];simp
def jh(N m:Nat)(l:List UInt8):Prop:=jy N=(if m=0 then [] else jy m)++l
theorem rR(N:Nat):jh N (N / 10) [UInt8.ofNat (48+N % 10)]:=by
 unfold jh;rw[jy];split
 .rename_i h;rw[if_pos ad,show N % 10=N by omega];rfl
 .rw[if_neg ad]
theorem D5(h:jh N m l)(hm:0<m):jh N (m / 10) (UInt8.ofNat (48+m % 10)::l):=by
 unfold jh at *;rw[if_neg ad] at h;rw[h];have:=rR m;unfold jh at this;rw[this];simp
theorem FL(h:jh N m l)(hN:N<=9223372036854775808):l.length<=20:=by
 have:=jz 19 N ad;unfold jh at h;rw[h,Lm] at this;omega
theorem pZ(N:Nat)(w:World)(hN:N<=9223372036854775808) :
  Calls prog 170 #[.int .u64 N] w λe ab=>e=.returned (.string (strOf (jy N)))/\Below w.heap.size w ab:=by
 have kc:=k0 w;go_enter func170,ntmps170;go_wp2;go_loopw [0,3] (λa sv wr=>∃(m:Nat) (l:List UInt8),a=.int .u64 m/\sv=.string (strOf l)/\m<=N/\jh N m l/\Below w.heap.size w wr) (λa _ _=>(intOf a).toNat)
 case atStart=>exact⟨N / 10,[byteOf (48+(N:Int) % 10)],by simp,rfl,ad,by rw[pV];exact rR N,(Below.refl _ _).alloc (Lk _) _⟩
 case round=>
  obtain⟨m,l,rfl,rfl,hm,ba,O⟩:=hrel;obtain⟨a3,bO⟩:=aJ ba O;have hl:=FL ba hN;clear ba O kc;have kc:=k0 wr;by_cases h0:0<m
  .have q:decide ((m:Int) > 0)=true:=by simp;omega
   have ar:decide (m > 0)=true:=by simp;omega
   have bv:(strOf l).size<=20:=by rw[aO];omega
   have bD:(strOf [byteOf (48+(m:Int) % 10)]).size<=1:=by rw[aO];simp
   go_wp2;go_roundw
   case rel=>exact⟨m / 10,byteOf (48+(m:Int) % 10)::l,by simp,by rw[ah];rfl,ad,by rw[pV];exact D5 a3.o h0,bO.alloc bO.size _⟩
   case measure=>exact aH
  .have bu:m=0:=ad;have bo:=ae (show jy N=l by have:=a3.o;unfold jh at this;rw[if_pos bu] at this;simpa using this);have q:decide ((m:Int) > 0)=false:=by simp;omega
   clear bu;go_wp2;go_ret;exact⟨ret_str (by rw[bo.o]),bO.o⟩
def lP(n:Int):List UInt8:=aY (hP n)
theorem zr{n:Int}(h:n<0):lP n=45::jy n.natAbs:=by unfold lP hP;rw[if_pos h];simp[aY,Atom.bytes]
theorem vA{n:Int}(h:0<=n):lP n=jy n.toNat:=by unfold lP hP;rw[if_neg ad];simp[aY,Atom.bytes]
theorem mg(n:Int)(w:World)(h:-9223372036854775808<=n/\n<=9223372036854775807) :
  Calls prog 154 #[.int .i64 n] w λe ab=>e=.returned (.string (strOf (lP n)))/\Below w.heap.size w ab:=by
 by_cases hn:n<0
 .obtain⟨m,rfl⟩:∃m:Nat,n = -((m:Int)+1):=⟨(-(n+1)).toNat,ad⟩
  have hm:m<=9223372036854775807:=ad;have aa:=ae (zr hn);clear hn h;go_enter func154,ntmps154;go_wp2_with(fail);rw[show (-(-((m:Int)+1)+1)+1)=((m+1:Nat):Int) by omega];refine(pZ (m+1) w ad).mono ?_;rintro e ab ⟨rfl,O⟩;have bO:=ae O;clear O;have bv:(strOf (jy (m+1))).size<=20:=by rw[aO];exact jz 19 _ ad
  go_wp2;go_ret;exact⟨ret_str (by rw[aa.o,show (-((m:Int)+1)).natAbs=m+1 by omega];exact ah [45] _),bO.o⟩
 .obtain⟨m,rfl⟩:=Lp (show 0<=n by omega);have aa:=ae (vA (n:=(m:Int)) ad);clear hn;go_enter func154,ntmps154;go_wp2_with(fail);refine(pZ m w ad).mono ?_;rintro e ab ⟨rfl,O⟩;have bO:=ae O;clear O;go_wp2;go_ret;exact⟨ret_str (by rw[aa.o,LI]),bO.o⟩
def m7:Nat->List (List UInt8×Int)
 | 0=>[([124,124],17)]
 | 1=>[([38,38],16)]
 | 2=>[([61,61],14),([33,61],15),([60],10),([60,61],11),([62],12),([62,61],13)]
 | 3=>[([43],8),([45],9)]
 | _=>[([42],5),([47],6),([37],7)]
def It(k:Nat):List ByteArray:=(m7 k).map λp=>strOf p.1
def nU(k:Nat):List Int:=(m7 k).map (·.2)
theorem E5{cs:Array Value}{l:List Int}(h:aq w g t cs)(hc:cs=(l.map (Value.int .i64)).toArray)(hl:l.length=n)(aR:g<B):cp (EF cP) 1 w B (some ⟨g,0,none⟩) n l:=by
 subst hc;refine⟨hl,λ_=>⟨g,0,rfl,aR,λk x hx=>⟨cP x,rfl,rfl,λj v bi=>?_⟩⟩⟩;have fa:j=0/\v=.int .i64 x:=by
  cases j with
  | zero=>simp[cP] at bi;exact⟨rfl,bi.symm⟩
  | succ j=>simp[cP] at bi
 obtain⟨rfl,rfl⟩:=fa;rw[h.cell];simp[hx]
theorem E6{cs:Array Value}{l:L4}(h:aq w g t cs)(hc:cs=(l.map Value.string).toArray)(hl:l.length=n)(aR:g<B):cp (EF oL) 1 w B (some ⟨g,0,none⟩) n l:=by
 subst hc;refine⟨hl,λ_=>⟨g,0,rfl,aR,λk x hx=>⟨oL x,rfl,rfl,λj v bi=>?_⟩⟩⟩;have fa:j=0/\v=.string x:=by
  exact z7
 obtain⟨rfl,rfl⟩:=fa;rw[h.cell];simp[hx]
def zE(w:World)(k:Nat)(e:Ending)(ab:World):Prop:=
 ∃A B n,n<=6/\e=.returned (.tuple #[.slice A n n,.slice B n n])/\cp (EF oL) 1 ab ab.heap.size A n (It k)/\cp (EF cP) 1 ab ab.heap.size B n (nU k)/\Ext w ab
theorem sk(k:Nat)(ap:k<=4)(w:World):Calls prog 178 #[.int .i64 k] w (zE w k):=by
 obtain rfl|rfl|rfl|rfl|rfl:k=0\/k=1\/k=2\/k=3\/k=4:=ad
 all_goals
  clear ap;go_enter func178,ntmps178;go_wp2
  go_ret2
  generalize be:World.alloc (World.alloc w _) _=W;refine⟨some ⟨w.heap.size,0,none⟩,some ⟨w.heap.size+1,0,none⟩,_,by decide,rfl,E6 (t:=9) (cs:=((It _).map Value.string).toArray) ?_ rfl rfl ?_,E5 (t:=3) (cs:=((nU _).map (Value.int .i64)).toArray) ?_ rfl rfl ?_,?_⟩
  .rw[<-be];exact(LX).alloc _
  .rw[<-be];simp;omega
  .rw[<-be];exact aq.gC _ _ _ (by simp)
  .rw[<-be];simp
  .rw[<-be];exact(LW.alloc _).alloc _
theorem FF(ap:k<=4)(h:op∈nU k):cX op=k:=by
 obtain rfl|rfl|rfl|rfl|rfl:k=0\/k=1\/k=2\/k=3\/k=4:=ad
 all_goals
  simp[nU,m7] at h;unfold cX
  repeat' split
  all_goals omega
theorem DX(h:∀k:Nat,k<5->op∉nU k):cX op=if op=3\/op=4 then 5 else 6:=by
 have h0:=h 0 ad;have ac:=h 1 ad;have au:=h 2 ad;have aY:=h 3 ad;have bR:=h 4 ad;simp[nU,m7] at h0 ac au aY bR;unfold cX;rw[if_neg ad,if_neg ad,if_neg ad,if_neg ad,if_neg ad]
theorem gv(op:Int)(w:World):Calls prog 179 #[.int .i64 op] w λe ab=>e=.returned (.int .i64 (cX op))/\Ext w ab:=by
 go_enter func179,ntmps179;go_wp2;go_loopw [3] (λbg wr=>∃k:Nat,k<=5/\bg=.int .i64 k/\(∀i:Nat,i<k->op∉nU i)/\Ext w wr) (λbg _=>6 - (intOf bg).toNat)
 case atStart=>exact⟨0,ad,rfl,λi h=>ad,LW⟩
 case round=>
  obtain⟨k,ap,rfl,cE,O⟩:=hrel;obtain⟨bO,bY⟩:=aJ O cE;clear O cE;by_cases al:k<5
  .have q:decide ((k:Int)<5)=true:=by simp;omega
   go_wp2_with(fail);refine(sk k ad _).mono ?_;rintro e aU ⟨A,B,n,hn,rfl,hs,bn,he⟩;have bQ:=ag bn he;clear hs bn he;go_wp2_with(fail)
   go_loop [6] (λcy=>∃j:Nat,j<=n/\cy=.int .i64 j/\∀(i:Nat) (x:Int),i<j->(nU k)[i]?=some x->x≠op) (λcy=>n - (intOf cy).toNat)
   case atStart=>exact⟨0,ad,rfl,λi x h=>ad⟩
   case round=>
    obtain⟨j,bi,rfl,bf⟩:=hrel;have bo:=ae bf;clear bf;by_cases G:j<n
    .obtain⟨b,o,x,rfl,U,hx,hc⟩:=bQ.1.int G;have aQ:=ae hx;clear hx;by_cases rk:x=op
     .have q1:(x == op)=true:=by simpa using rk
      have a3:=ae (FF (op:=op) (k:=k) ad (by rw[<-rk];exact Ln aQ.o));clear rk;go_wp2;go_ret;exact⟨ret_int a3.symm,bO.trans bQ.2⟩
     .have q1:(x == op)=false:=by simpa using rk
      have S:=ae rk;clear rk;go_wp2
      go_round
      case rel=>exact⟨j+1,ad,by go_num,λi y an bb=>by
       by_cases J:i=j
       .subst J;rw[aQ.o] at bb;injection bb with bb;subst bb;exact S.o
       .exact bo.o i y ad bb⟩
      case measure=>exact aH
    .have c:j=n:=ad;have c8:=ae (show op∉nU k from λhm=>by
      obtain⟨i,an⟩:=List.getElem?_of_mem hm;have al:=(List.getElem?_eq_some_iff.1 an).1;have hl:=bQ.1.1;exact bo.o i op ad an rfl)
     have cN:decide ((j:Int)<(n:Int))=false:=by simp;omega
     clear c;go_wp2;go_roundw
     case rel=>exact⟨k+1,ad,by go_num,λi an=>by
      by_cases bx:i=k
      .subst bx;exact c8.o
      .exact bY.o i ad,bO.trans bQ.2⟩
     case measure=>exact aH
  .have av:k=5:=ad;have a3:=ae (DX (op:=op) (λi an=>bY.o i ad));subst av;by_cases aY:op=3\/op=4
   .have r:=ae (a3.trans (if_pos aY));rcases aY with rfl|rfl
    all_goals
     go_wp2;go_ret;exact⟨ret_int r.symm,bO.o⟩
   .have r:=ae (a3.trans (if_neg aY));have df:(op == 3)=false:=by simp;omega
    have dd:(op == 4)=false:=by simp;omega
    clear aY;go_wp2;go_ret;exact⟨ret_int r.symm,bO.o⟩
theorem F9(x:VE):x.bg=bg x:=by cases x<;>rfl
theorem r4(op n M:Int)(nm:ByteArray)(b o m c:Nat)(k:Nat)(w:World)(ap:k<=1)(L:k<m)(O:b<w.heap.size)(hc:w.cell? ⟨b,o+k*4,none⟩=some (.int .i64 M)) :
  Calls prog 180 #[.agg #[.int .i64 op,.int .i64 n,.string nm,.slice (some ⟨b,o,none⟩) m c],.int .i64 k] w λe ab=>e=.returned (.bool (dF op M (k == 1)))/\Ext w ab:=by
 have c8:(0:Int)<=(k:Int):=ad;have cv:(k:Int)<(m:Int):=ad;go_enter func180,ntmps180;go_wp2;generalize be:World.alloc _ _=W;have aw:=aW be;obtain⟨a0,aj,af⟩:=(show aq W w.heap.size 53 #[.int .i64 op,.int .i64 n,.string nm,.slice (some ⟨b,o,none⟩) m c] by rw[<-be];exact LX).two;have aZ:=(aw.cell (j:=o+k*4) O (λh=>h)).trans hc;have f:b<W.heap.size:=Ll O aw.size;have bo:=ae aw;clear be aw hc;refine eC (λ_=>False) [(0,3),(1,0),(2,3),(3,3),(4,3),(5,0),(7,3),(8,0),(6,1),(9,2),(10,3),(11,3)] ?_;refine pf ?_;refine ph ?_
 iterate 3 refine pf ?_
 refine ph ?_;refine pf ?_;refine ph ?_;refine aG rfl (λK hK=>?_);go_simp;refine(gv M _).mono ?_;rintro e aS ⟨rfl,ar⟩;refine dq hK (ar) ?_;clear hK K;have bx:=ae (bo.trans (Fr.aF ar));clear ar;refine ax rfl (λK hK=>?_);go_simp;refine(gv op _).mono ?_;rintro e aU ⟨rfl,bL⟩;refine dP hK ?_;clear hK K;have aX:=ae (bx.trans bL);clear bL a0 aj af aZ
 iterate 2 refine pf ?_
 refine aC ?_;have bO:=ae (show dF op M (k == 1)=(decide (cX M<cX op) || (cX M == cX op && k == 1)) from rfl);generalize cX M=x at *;generalize cX op=y at *;by_cases ac:x<y
 .have a3:=ae (show dF op M (k == 1)=true by rw[bO.o];simp[ac]);clear bO;exact sL
 have q1:decide (x<y)=false:=by simpa using ac
 by_cases au:x=y
 .have cN:(x == y)=true:=by simpa using au
  by_cases aY:k=1
  .have a3:=ae (show dF op M (k == 1)=true by rw[bO.o];simp[au,aY]);have df:((k:Int) == 1)=true:=by simp;omega
   have a:(k == 1)=true:=by simp;omega
   clear bO ac au aY;exact sL
  .have a3:=ae (show dF op M (k == 1)=false by rw[bO.o];simp[au,aY]);have df:((k:Int) == 1)=false:=by simp;omega
   have a:(k == 1)=false:=by simp;omega
   clear bO ac au aY;exact sL
 .have cN:(x == y)=false:=by simpa using au
  have a3:=ae (show dF op M (k == 1)=false by rw[bO.o];simp[ac,au]);clear bO ac au;exact sL
theorem ky:cj prog 151 9 (.string ⟨#[]⟩) 1 16:=cj.mk' Tryz.underlying151 (by kernel_rfl) rfl ad
def b0(x:VE):List UInt8:=aY (cq x)
def gB(op:Int)(k:Nat)(y:VE):List UInt8:=aY (par (dF op (bg y) (k == 1)) (cq y))
def gH:VE->List (List UInt8)
 | .un op x=>[gB op 0 x]
 | .bin op x y=>[gB op 0 x,gB op 1 y]
 | _=>[]
theorem xZ(op:Int)(k:Nat)(y:VE):gB op k y=if dF op (bg y) (k == 1) then 40::(b0 y++[41]) else b0 y:=by
 unfold gB par b0;split
 .rw[bf,bh];rfl
 .rfl
theorem x0(op:Int)(k:Nat)(y:VE):(b0 y).length<=(gB op k y).length:=by
 rw[xZ];split<;>simp
 omega
theorem yv(op:Int)(x:VE):b0 (.un op x)=(if op=3 then 45 else 33)::gB op 0 x:=by
 unfold b0 cq gB;rw[bf];split<;>rfl
theorem vt(op:Int)(x y:VE):b0 (.bin op x y)=gB op 0 x++32::(gW op++32::gB op 1 y):=by
 unfold b0 cq gB;rw[bh,bf,bf,bf];rfl
theorem kz(x:VE){t:List UInt8}(h:(gH x)[k]?=some t):t.length<=(b0 x).length:=by
 cases x with
 | un op x=>
  rw[yv]
  match k,h with
  | 0,h=>simp[gH] at h;subst h;simp
 | bin op x y=>
  rw[vt]
  match k,h with
  | 0,h=>simp[gH] at h;subst h;simp
  | 1,h=>simp[gH] at h;subst h;simp;omega
 | num n=>simp[gH] at h
 | g7 n=>simp[gH] at h
 | loc n=>simp[gH] at h
 | iF n=>simp[gH] at h
theorem mB(x:VE)(h:x.args[k]?=some y):(gH x)[k]?=some (gB x.bg k y)/\k<=1:=by
 cases x with
 | un op x=>
  match k,h with
  | 0,h=>simp[VE.args] at h;subst h;simp[gH,VE.bg]
 | bin op x y=>
  match k,h with
  | 0,h=>simp[VE.args] at h;subst h;simp[gH,VE.bg]
  | 1,h=>simp[VE.args] at h;subst h;simp[gH,VE.bg]
 | num n=>simp[VE.args] at h
 | g7 n=>simp[VE.args] at h
 | loc n=>simp[VE.args] at h
 | iF n=>simp[VE.args] at h
theorem yG(x:VE):(gH x).length=x.args.length:=by cases x<;>rfl
theorem ug(x:VE):x.args.length<=2:=by cases x<;>simp[VE.args]
theorem qY{N:L4}{d:Nat}(h:x.src N (d+1))(bb:x.args[k]?=some y):y.src N d:=by
 cases x with
 | un op x=>
  match k,bb with
  | 0,bb=>simp[VE.args] at bb;subst bb;exact h.2
 | bin op x y=>
  match k,bb with
  | 0,bb=>simp[VE.args] at bb;subst bb;exact h.2.1
  | 1,bb=>simp[VE.args] at bb;subst bb;exact h.2.2
 | num n=>simp[VE.args] at bb
 | g7 n=>simp[VE.args] at bb
 | loc n=>simp[VE.args] at bb
 | iF n=>simp[VE.args] at bb
theorem qZ{N:L4}(h:x.src N 0):x.args=[]:=by
 cases x with
 | un op x=>exact h.elim
 | bin op x y=>exact h.elim
 | num n=>rfl
 | g7 n=>rfl
 | loc n=>rfl
 | iF n=>rfl
theorem Gq{i:Nat}(h:5<=op/\op<=17)(an:(nU (cX op).toNat)[i]?=some op):(It (cX op).toNat)[i]?=some (strOf (gW op)):=by
 obtain⟨ac,au⟩:=h;obtain rfl|rfl|rfl|rfl|rfl|rfl|rfl|rfl|rfl|rfl|rfl|rfl|rfl:op=5\/op=6\/op=7\/op=8\/op=9\/op=10\/op=11\/op=12\/op=13\/op=14\/op=15\/op=16\/op=17:=ad
 all_goals
  match i,an with
  | 0,an=>first|rfl|(exact absurd an (by decide))
  | 1,an=>first|rfl|(exact absurd an (by decide))
  | 2,an=>first|rfl|(exact absurd an (by decide))
  | 3,an=>first|rfl|(exact absurd an (by decide))
  | 4,an=>first|rfl|(exact absurd an (by decide))
  | 5,an=>first|rfl|(exact absurd an (by decide))
  | i+6,an=>simp[nU,m7,cX] at an
theorem vk(h:5<=op/\op<=17):∃k:Nat,k<=4/\cX op=k/\op∈nU k:=by
 obtain⟨ac,au⟩:=h;obtain rfl|rfl|rfl|rfl|rfl|rfl|rfl|rfl|rfl|rfl|rfl|rfl|rfl:op=5\/op=6\/op=7\/op=8\/op=9\/op=10\/op=11\/op=12\/op=13\/op=14\/op=15\/op=16\/op=17:=ad
 all_goals first|exact⟨0,ad,rfl,by decide⟩|exact⟨1,ad,rfl,by decide⟩|exact⟨2,ad,rfl,by decide⟩|exact⟨3,ad,rfl,by decide⟩|exact⟨4,ad,rfl,by decide⟩
def zG(x:VE):Prop:=∀(op n:Int) (s:ByteArray) (A:L3) (m c:Nat) (w:World),(bp x).rep w (av w) [.int .i64 op,.int .i64 n,.string s,.slice A m c]->(b0 x).length<=262144->
 Calls prog 171 #[.agg #[.int .i64 op,.int .i64 n,.string s,.slice A m c]] w λe ab=>e=.returned (.string (strOf (b0 x)))/\Ext w ab
theorem xi{l:List (List UInt8)}{t:List UInt8}(h:l[k]?=some t):(l.take (k+1)).map (λt=>Value.string (strOf t))=(l.take k).map (λt=>Value.string (strOf t))++[Value.string (strOf t)]:=by
 rw[List.take_add_one,h,Lr];rfl
theorem Ef(l:L4):l.flatMap oL=l.map Value.string:=by
 induction l with
 | nil=>rfl
 | cons a l ao=>rw[LH,ao];rfl
theorem zh{A:L3}{c:Nat}{l:List (List UInt8)}(h:w.ownsRow base e 1 (.slice A n c) n (l.map λt=>Value.string (strOf t)))(hl:l.length=n):cp (EF oL) 1 w w.heap.size A n (l.map strOf):=
 jM (f:=oL) (l:=l.map strOf) (by rw[Ef,List.map_map];exact h) (λ_ _=>rfl) (by rw[Lo];exact hl)
structure pG(w wr:World)(x:VE)(A:L3)(m c:Nat):Prop where
 ext:Ext w wr
 blk:aq wr w.heap.size 53 #[.int .i64 x.bg,.int .i64 x.numOf,.string x.bA,.slice A m c]
 args:Sl wr (av w) A m (x.args.map bp)
theorem pG.on{w wr ab:World}{x:VE}{A:L3}{m c:Nat}(h:pG w wr x A m c)(O:Fr (λb=>w.heap.size<b) wr ab):pG w ab x A m c:=
 ⟨⟨O.os.trans h.ext.os,O.tape.trans h.ext.tape,O.output.trans h.ext.output,LD h.ext.size O.size,λk ap hn=>(O.block k (Ll ap h.ext.size) ad).trans (h.ext.block k ap hn)⟩,
  h.blk.on O ad,h.args.al λb al=>O.block b (Ll al h.ext.size) (by have:b<w.heap.size:=al;omega)⟩
theorem H3{sz:Nat}{v:Value}{xs:List Value}(aB:w.ownsRow base e sz v n xs)(a9:w.grownBy ab v.ownBlock)(O:∀g,base<=g->M g):Fr M w ab:=
 (Fr.refl M w).grown a9 λk ap=>.inl (O k (aB.lt k ap).1)
theorem Ext.fr(h:Ext w ab):Fr M w ab:=h.mono λ_ h=>h.elim
namespace B3
theorem pJ(h:p:=by
 have ci:m<=2:=by rw[<-hs.1,Lo];exact ug x
 have cf:(gH x).length=m:=by rw[yG,<-hs.1,Lo]
 obtain⟨bJ,bq,ck,aQ,F⟩:=Dp cf hs ao hx hlen;clear ba hs ao hx hlen cf;go_enter func171,ntmps171;go_wp2;generalize be:World.alloc _ _=W;have hT:pG w W x A m c:=by
  have aw:=aW be;exact⟨aw,by rw[<-be];exact LX,bq.al λb al=>aw.block b al (λh=>h)⟩
 have aa:=ae hT;clear be hT;go_loopw [3,4] (λsv bg wr=>∃k:Nat,k<=m/\bg=.int .i64 k/\pG w wr x A m c/\wr.ownsRow (w.heap.size+1) 9 1 sv k (((gH x).take k).map λt=>Value.string (strOf t))) (λ_ bg _=>m - (intOf bg).toNat)
 case atStart=>exact⟨0,ad,rfl,aa.o,by simp,.inl ⟨rfl,rfl⟩⟩
 case round=>
  obtain⟨k,ap,rfl,hT,aB⟩:=hrel;clear aa;obtain⟨bU,bE,rfl,d5,_,_,_⟩:=b5 aB;obtain⟨aa,bQ⟩:=aJ hT aB;obtain⟨a0,aj,af⟩:=hT.blk.two;clear hT aB;by_cases al:k<m
  .obtain⟨b,o,y,cs,rfl,O,bb,Q,a8,Z⟩:=aa.args.g6 db al
   match cs,a8 with
   | [b2,cG,ch,bA],_=>
   have c0:=Z 0 b2 rfl;have c1:=Z 1 cG rfl;have c2:=Z 2 ch rfl;have c3:=Z 3 bA rfl;simp only[Lu] at c0;have aT:b<wr.heap.size:=Ll O aa.ext.size;clear Z O;obtain⟨B,bF,bc,e,cv,ak⟩:=a5.1 Q;simp only[List.cons.injEq,and_true] at e;obtain⟨rfl,rfl,rfl,rfl⟩:=e;have bu:=ae bb;have H:=ae (D.aL (c9:=av wr) (λb al=>Ll al aa.ext.size) _ _ Q);clear bb Q ak;go_wp2_with(fail);refine(ck.o k y bu.o _ _ _ _ _ _ wr H.o ?_).mono ?_
   .exact LD (x0 x.bg k y) (LD (kz x (mB x bu.o).1) F.o)
   rintro e aS ⟨rfl,ar⟩;have cd:=(mB x bu.o).2;have ab:=ae (aa.on ar.fr);have d0:=(ar.cell (j:=o+k*4) aT (λh=>h)).trans c0;have b1:b<aS.heap.size:=Ll aT ar.size;have ac:=ae (b3 bQ.o (Fr.ext ar));clear aa bQ a0 aj af c0 c1 c2 c3 ar aT;obtain⟨a0,aj,af⟩:=ab.blk.two;go_wp2_with(fail);refine(r4 x.bg x.numOf y.bg x.bA b o m c k aS cd al b1 d0).mono ?_;rintro e aU ⟨rfl,bL⟩;have l:=ae (ab.on bL.fr);have aN:=ae (b3 ac.o (Fr.ext bL));clear ab ac a0 aj af d0 b1 bL;obtain⟨a0,aj,af⟩:=l.blk.two;have HA:=ae (xZ x.bg k y);have R:=ae (mB x bu.o).1;have bv:(strOf (b0 y)).size<=262144:=by
    rw[aO];exact LD (x0 x.bg k y) (LD (kz x (mB x bu.o).1) F.o)
   rw[<-F9] at *;have ak:w.heap.size+1<=aU.heap.size:=l.blk.lt;by_cases an:dF x.bg y.bg (k == 1)=true
   .rw[an];have aL:=ae (show (⟨#[40]⟩:ByteArray)++strOf (b0 y)++⟨#[41]⟩=strOf (gB x.bg k y) by
     rw[HA.o,if_pos an,show (⟨#[40]⟩:ByteArray)=strOf [40] from rfl,show (⟨#[41]⟩:ByteArray)=strOf [41] from rfl,ah,ah];simp)
    clear an HA;exact G5
   .have r:dF x.bg y.bg (k == 1)=false:=by simpa using an
    rw[r];have aL:=ae (show strOf (b0 y)=strOf (gB x.bg k y) by rw[HA.o,if_neg an]);clear an r HA;exact G5
  .have L:k=m:=ad;subst L;have a3:=ae (zh (by
    have:=bQ.o;rw[<-bJ.o,List.take_length] at this;rw[<-bJ.o];exact this) bJ.o)
   have bo:=ae aa.ext;clear bQ ck;have gM:decide ((k:Int)<(k:Int))=false:=by simp
   cases x with
   | num n=>
    have hn:0<=n/\n<4611686018427387904:=by have:=aQ.o;cases d<;>exact this
    have bY:=ae (show lP n=b0 (.num n) by rw[vA hn.1];simp[b0,cq,aY,Atom.bytes]);have O:=mg n wr ad;simp only[VE.bg,VE.numOf,VE.bA] at *;clear gM;go_wp2_with(fail);refine O.mono ?_;rintro e aS ⟨rfl,ar⟩;have bx:=ae (bo.trans (Fr.of ar));clear ar O;go_wp2;go_ret
    exact⟨ret_str (by rw[bY.o]),bx.o⟩
   | g7 s=>
    simp only[VE.bg,VE.numOf,VE.bA] at *;have bY:=ae (show s=strOf (b0 (.g7 s)) by simp[b0,cq,aY,Atom.bytes,strOf]);go_wp2;go_ret
    exact⟨ret_str bY.o,bo.o⟩
   | loc j=>exact(by have:=aQ.o;cases d<;>exact this:False).elim
   | iF j=>exact(by have:=aQ.o;cases d<;>exact this:False).elim
   | un op y=>
    obtain rfl:k=1:=bJ.symm;obtain⟨b,o,z,rfl,O,bv,hc⟩:=a3.str (k:=0) ad;have V:strOf (gB op 0 y)=z:=by simpa[gH] using bv
    subst V;have bI:(strOf (gB op 0 y)).size<=262144:=by
     rw[aO];exact LD (kz (.un op y) (k:=0) rfl) F.o
    have cA:op=3\/op=4:=by
     cases d with
     | zero=>exact aQ.elim
     | succ d=>exact aQ.1
    have l:=ae (yv op y);simp only[Lu] at hc;clear bv aQ aa F bJ ci cb gM af d5;rcases cA with rfl|rfl
    .have bY:=ae (show (⟨#[45]⟩:ByteArray)++strOf (gB 3 0 y)=strOf (b0 (.un 3 y)) by rw[l.o,if_pos rfl];exact ah [45] _);clear l;generalize gB 3 0 y=t at *;exact z9
    .have bY:=ae (show (⟨#[33]⟩:ByteArray)++strOf (gB 4 0 y)=strOf (b0 (.un 4 y)) by rw[l.o,if_neg ad];exact ah [33] _);clear l;generalize gB 4 0 y=t at *
     exact z9
   | bin op y z=>
    obtain rfl:k=2:=bJ.symm;obtain⟨b,o,a1,rfl,O,X,u⟩:=a3.str (k:=0) ad;obtain⟨K,M,bs,e,_,bD,dE⟩:=a3.str (k:=1) ad;simp only[LP,Addr.mk.injEq,and_true] at e;obtain⟨rfl,rfl⟩:=e;have V:strOf (gB op 0 y)=a1:=by simpa[gH] using X
    have au:strOf (gB op 1 z)=bs:=by simpa[gH] using bD
    subst V au;have aC:(strOf (gB op 0 y)).size<=262144:=by
     rw[aO];exact LD (kz (.bin op y z) (k:=0) rfl) F.o
    have hq:(strOf (gB op 1 z)).size<=262144:=by
     rw[aO];exact LD (kz (.bin op y z) (k:=1) rfl) F.o
    have cA:5<=op/\op<=17:=by
     cases d with
     | zero=>exact aQ.elim
     | succ d=>exact aQ.1
    have bY:=ae (show ((strOf (gB op 0 y)++⟨#[32]⟩)++strOf (gW op))++⟨#[32]⟩++strOf (gB op 1 z)=strOf (b0 (.bin op y z)) by
     rw[vt,show (⟨#[32]⟩:ByteArray)=strOf [32] from rfl,ah,ah,ah,ah];simp)
    have bw:(strOf (gW op)).size<=2:=by
     rw[aO];unfold gW
     repeat' split
     all_goals simp
    have o1:(op == 1)=false:=by simp;omega
    have fg:(op == 2)=false:=by simp;omega
    have o3:(op == 3)=false:=by simp;omega
    have o4:(op == 4)=false:=by simp;omega
    obtain⟨bZ,cl,bm,cz⟩:=vk cA;have ax:=ae (λ(i:Nat)=>Gq (i:=i) cA);obtain⟨Y,cN⟩:=aJ cz bm;simp only[Lu] at u;clear X bD aQ F bJ ci cb gM af d5 a3 cz cA;generalize strOf (gB op 0 y)=t0 at *;generalize strOf (gB op 1 z)=t1 at *;generalize strOf (gW op)=sg at *;simp only[VE.bg,VE.numOf,VE.bA] at *;go_wp2_with(fail);refine(gv op wr).mono ?_;rintro e aS ⟨rfl,ar⟩;rw[bm];go_wp2_with(fail);refine(sk bZ cl aS).mono ?_;rintro e aU ⟨bU,ai,n,hn,rfl,hs,bn,bL⟩;have q:=ar.trans bL;have aX:=ae (bo.trans q);have e0:=(q.cell (j:=o) O (λh=>h)).trans u;have e1:=(q.cell (j:=o+1) O (λh=>h)).trans dE;have bj:b<aU.heap.size:=Ll O q.size;have l:=ae (aa.on (Ext.fr q));obtain⟨a7,am,aF⟩:=l.blk.two;simp only[VE.bg,VE.numOf,VE.bA] at a7;have bQ:=ag hs bn;clear hs bn ar bL q u dE O a0 aj aa bo bm;go_wp2_with(fail);go_loopw [8] (λcy wr=>∃j:Nat,j<=n/\cy=.int .i64 j/\(∀(i:Nat) (x:Int),i<j->(nU bZ)[i]?=some x->x≠op)/\Ext aU wr) (λcy _=>n - (intOf cy).toNat)
    case atStart=>exact⟨0,ad,rfl,λi x h=>ad,LW⟩
    case round=>
     obtain⟨j,bi,rfl,bf,bX⟩:=hrel;obtain⟨bK,bd⟩:=aJ bf bX;obtain⟨v0,ay⟩:=Fr.tM bX;clear bf bX;by_cases G:j<n
     .obtain⟨c1,aD,x,rfl,P,hx,U⟩:=bQ.2.int G;obtain⟨c2,aE,gI,rfl,aA,cZ,T⟩:=bQ.1.str G;have aQ:=ae hx;by_cases rk:x=op
      .subst rk;have v:=ax.o j (by rw[cN.o];exact hx);rw[cN.o,LI,cZ] at v;injection v with v;subst v;clear hx cZ;go_wp2;go_quiet (fail)
       go_wp2;go_quiet (fail)
       go_wp2;go_ret;exact⟨ret_str bY.o,aX.trans ((bd.drewN _).drewN _)⟩
      .have q1:(x == op)=false:=by simpa using rk
       have S:=ae rk;clear rk hx cZ;go_wp2;go_quiet (fail)
       go_wp2
       go_round
       case rel=>refine⟨j+1,ad,by go_num,λi y an bb=>?_,?_⟩;rotate_left;exact bd.drewN _;exact(by
        by_cases J:i=j
        .subst J;rw[aQ.o] at bb;injection bb with bb;subst bb;exact S.o
        .exact bK.o i y ad bb)
       case measure=>exact aH
     .exfalso;obtain⟨i,an⟩:=List.getElem?_of_mem Y.o;have al:=(List.getElem?_eq_some_iff.1 an).1;have hl:=bQ.2.1;exact bK.o i op ad an rfl
 ):p:=h
end B3
open B3 in
theorem so(N:L4)(d:Nat)(x:VE)(hx:x.src N d)(ao:∀(k:Nat) (y:VE),x.args[k]?=some y->zG y):zG x:=by
 intro op n s A m c w ba hlen;exact pI
theorem jP(N:L4):∀(d:Nat) (x:VE),x.src N d->zG x
 | 0,x,h=>so N 0 x h λk y bb=>by rw[qZ h] at bb;simp at bb
 | d+1,x,h=>so N (d+1) x h λk y bb=>jP N d y (qY h bb)
def fW(r:eS):List UInt8:=aY (iz r)
theorem xj(h:r.idx=none):fW r=r.name.data.toList:=by
 unfold fW iz;rw[h];simp[aY,Atom.bytes]
theorem xk{e:VE}(h:r.idx=some e):fW r=r.name.data.toList++91::(b0 e++[93]):=by
 unfold fW iz b0;rw[h];simp[aY,Atom.bytes]
theorem jC:(kG r).rep w P cs↔∃A n c,cs=[.string r.name,.slice A n c]/\n<=c/\Sl w P A n (r.idx.toList.map bp):=by
 unfold kG;rw[bM,ct];constructor
 .rintro⟨y,rfl,h⟩;obtain⟨A,n,c,bA,rfl,hc,hs,aY⟩:=aN.1 h;exact sI
 .rintro⟨A,n,c,rfl,hc,hs⟩;exact vI
def E8(r:eS):Prop:=∀e,r.idx=some e->∃N d,e.src N d
theorem dd(s:ByteArray):strOf s.data.toList=s:=by simp[strOf]
namespace B4
theorem Aq(h:p:=by
 refine pf ?_;refine aC ?_;go_wp2;go_ret;exact⟨ret_str bY.o,bo.trans (Fr.aF ar)⟩
 ):p:=h
end B4
open B4 in
theorem kO(r:eS)(ay:E8 r)(s:ByteArray)(A:L3)(n c:Nat)(w:World)(ba:(kG r).rep w (av w) [.string s,.slice A n c])(hlen:(fW r).length<=262144) :
  Calls prog 173 #[.agg #[.string s,.slice A n c]] w λe ab=>e=.returned (.string (strOf (fW r)))/\Ext w ab:=by
 obtain⟨I,aP,aK,e,aL,hs⟩:=jC.1 ba;simp only[List.cons.injEq,Value.string.injEq,Value.slice.injEq,and_true] at e;obtain⟨rfl,rfl,rfl,rfl⟩:=e
 cases an:r.idx with
 | none=>
  rw[an] at hs;obtain rfl:n=0:=hs.1.symm;have bY:=ae (show r.name=strOf (fW r) by rw[xj an,dd]);clear an hs ba hlen ay;go_enter func173,ntmps173;go_wp2;go_ret
  exact⟨ret_str bY.o,LW.alloc _⟩
 | some x=>
  rw[an] at hs;obtain rfl:n=1:=hs.1.symm;obtain⟨N,d,hx⟩:=ay x an;obtain⟨b,o,bx,Z,a4,E,rfl,O,aB,c0,c1,c2,c3⟩:=Sl.EI hs (db x);obtain⟨B,bF,bc,e,cv,ak⟩:=a5.1 aB;simp only[List.cons.injEq,and_true] at e;obtain⟨rfl,rfl,rfl,rfl⟩:=e;have aT:b<w.heap.size:=O;have aa:=ae (xk an);have X:r.name.size<=262144:=by
   have:=hlen;rw[aa.o,Lm] at this;have au:r.name.size=r.name.data.toList.length:=rfl;omega
  have bD:(b0 x).length<=262144:=by
   have:=hlen;rw[aa.o,Lm] at this;simp at this;omega
  have bY:=ae (show r.name++⟨#[91]⟩++strOf (b0 x)++⟨#[93]⟩=strOf (fW r) by
   rw[aa.o,show (⟨#[91]⟩:ByteArray)=strOf [91] from rfl,show (⟨#[93]⟩:ByteArray)=strOf [93] from rfl];conv=>lhs;rw[<-dd r.name]
   rw[ah,ah,ah];simp)
  have bh:=ae bD;have cx:(strOf (b0 x)).size<=262144:=by rw[aO];exact bD
  have aQ:=ae (jP N d x hx);have U:=ae aB;clear an hs ba hlen ay aa aB ak O bD hx;go_enter func173,ntmps173;go_wp2;generalize be:World.alloc _ _=W;have aw:=aW be;obtain⟨a0,aj,af⟩:=(show aq W w.heap.size 204 #[.string r.name,.slice (some ⟨b,o,none⟩) 1 c] by rw[<-be];exact LX).two;have d0:=(aw.cell (j:=o) aT (λh=>h)).trans c0;have d1:=(aw.cell (j:=o+1) aT (λh=>h)).trans c1;have d2:=(aw.cell (j:=o+2) aT (λh=>h)).trans c2;have d3:=(aw.cell (j:=o+3) aT (λh=>h)).trans c3;have f:b<W.heap.size:=Ll aT aw.size;have bo:=ae aw;clear be aw c0 c1 c2 c3 aT;refine eC (λ_=>False) [(0,3),(1,0),(2,3),(3,3),(4,0),(5,3),(6,0),(7,1),(8,3),(9,3),(10,3)] ?_;refine pf ?_;refine ph ?_;refine bu (v:=?_) rfl (by rfl) (λV=>?_) ?_;rotate_left
  .go_simp;exact ep
  try simp only[PU]
  refine pf ?_;refine ph ?_;refine pf ?_;refine ph ?_;refine aG rfl (λK hK=>?_);go_simp;refine(aQ.o _ _ _ _ _ _ _ (D.on U.o (Fr.ext bo.drew)) bh.o).mono ?_;exact Ap
def oB(a:ds):List UInt8:=aY (fG a)
def ji(l:List ds):List UInt8:=40::aY (ef (l.map fG))
def hY(l:List ds):List UInt8:=aY (iY l)
theorem sn(l:List ds):hY l=ji l++[41]:=by
 unfold hY iY ji;rw[bf,bh];rfl
theorem l9:∀(l:List (List Atom)) (a:List Atom),ef (l++[a])=if l=[] then a else ef l++(.sg [44]::.ws 32::a)
 | [],a=>rfl
 | [b],a=>by simp[ef]
 | b::d::l,a=>by
  have ao:=l9 (d::l) a;rw[if_neg (by simp)] at ao;rw[if_neg (by simp)];show ef (b::d::(l++[a]))=_
  simp only[ef];rw[Lz] at ao;rw[ao];simp
theorem rI{aV:List ds}{a:ds}(h:aV[k]?=some a):ji (aV.take (k+1))=ji (aV.take k)++((if 0<k then [44,32] else [])++oB a):=by
 have ap:k<aV.length:=(List.getElem?_eq_some_iff.1 h).1;unfold ji oB;rw[List.take_add_one,h,Lr];show (40:UInt8)::aY (ef (List.map fG (List.take k aV)++[fG a]))=_
 rw[l9];by_cases h0:0<k
 .rw[if_neg (by intro e;have:=congrArg List.length e;simp only[Lo,List.length_take,LG] at this;omega),if_pos h0,bh,bf,bf];simp[Atom.bytes]
 .obtain rfl:k=0:=ad;simp[ef,aY]
theorem yE(aV:List ds)(k:Nat):(ji (aV.take k)).length<=(ji (aV.take (k+1))).length:=by
 cases h:aV[k]? with
 | none=>rw[Ls (i:=k+1) (by have:=List.getElem?_eq_none_iff.1 h;omega),Ls (List.getElem?_eq_none_iff.1 h)];exact Lk _
 | some a=>rw[rI h];simp
theorem xT(aV:List ds):∀j k:Nat,(ji (aV.take k)).length<=(ji (aV.take (k+j))).length
 | 0,k=>Lk _
 | j+1,k=>LD (xT aV j k) (yE aV (k+j))
theorem ue(aV:List ds)(ap:k<=aV.length):(ji (aV.take k)).length<=(hY aV).length:=by
 have:=xT aV (aV.length - k) k;rw[show k+(aV.length - k)=aV.length by omega,List.take_length] at this;rw[sn];simp;omega
def Gs:ds->Prop
 | .mx r=>E8 r
 | .ex e=>∃N d,e.src N d
theorem td(a:ds):(gN a).sz=7:=by
 cases a with
 | mx r=>rfl
 | ex e=>show D.zm [.b false,fY,bp e]=7;simp only[D.zm,db,D.sz,fY]
theorem dH{d:D}{l:List D}:D.aQ w P (d::l) cs↔∃x y,cs=x++y/\d.rep w P x/\D.aQ w P l y:=by simp only[D.aQ]
theorem FO(h:(gN (.mx r)).rep w P cs):∃s A n c e0 e1 e2 e3,cs=[.bool true,.string s,.slice A n c,e0,e1,e2,e3]/\(kG r).rep w P [.string s,.slice A n c]:=by
 unfold gN at h;rw[bM,fv] at h;obtain⟨y,rfl,h⟩:=h;obtain⟨x,ch,rfl,hx,bb⟩:=dH.1 h;obtain⟨A,n,c,rfl,hc,hs⟩:=jC.1 hx;rw[D.bm] at bb;obtain⟨A2,c2,rfl⟩:=fj.1 bb;exact⟨_,A,n,c,_,_,_,_,rfl,hx⟩
namespace B5
theorem vY(h:p:=by
 obtain⟨A,n,c,br,rfl,_,_,bv⟩:=aN.1 hx;rw[aP] at bv;subst bv;exact zZ
 ):p:=h
end B5
open B5 in
theorem FN{e:VE}(h:(gN (.ex e)).rep w P cs):∃bl r1 op n s A m c,cs=[.bool false,bl,r1,.int .i64 op,.int .i64 n,.string s,.slice A m c]/\(bp e).rep w P [.int .i64 op,.int .i64 n,.string s,.slice A m c]:=by
 exact vX
theorem s4(aV:List ds)(ay:∀a∈aV,Gs a)(A:L3)(n c:Nat)(w:World)(hs:Sl w (av w) A n (aV.map gN))(hlen:(hY aV).length<=262144)(hn:n<=1000) :
  Calls prog 172 #[.slice A n c] w λe ab=>e=.returned (.string (strOf (hY aV)))/\Ext w ab:=by
 have hl:aV.length=n:=by rw[<-hs.1,Lo]
 obtain⟨b8,bq,bD,F⟩:=iX hl hs ay hlen;clear hs ay hlen hl;go_enter func172,ntmps172;go_wp2;go_loopw [3,4] (λsv bg wr=>∃k:Nat,k<=n/\bg=.int .i64 k/\sv=.string (strOf (ji (aV.take k)))/\Ext w wr) (λ_ bg _=>n - (intOf bg).toNat)
 case atStart=>exact⟨0,ad,rfl,rfl,LW⟩
 case round=>
  obtain⟨k,ap,rfl,rfl,aw⟩:=hrel;have bo:=ae aw;clear aw;have bv:(strOf (ji (aV.take k))).size<=262144:=by
   rw[aO];exact LD (ue aV (by rw[b8.o];exact ap)) F.o
  by_cases al:k<n
  .obtain⟨b,o,a,cs,rfl,O,bz,ag,a8,Z⟩:=(bq.on (Fr.ext bo.o)).g6 td al;have aT:b<wr.heap.size:=O;have HA:=ae bz;have i:=ae (rI bz);have cf:=ae (bD.o a (Ln bz));have cy:(oB a).length<=262144:=by
    have ac:=ue aV (k:=k+1) (by rw[b8.o];exact al);rw[i.o] at ac;have au:=F.o;simp at ac;omega
   have f:=ae cy;have cx:(strOf (oB a)).size<=262144:=by rw[aO];exact cy
   clear bz cy O
   cases a with
   | mx r=>
    obtain⟨s,ce,a6,rc,e0,e1,e2,e3,rfl,ak⟩:=FO ag;have c0:=Z 0 _ rfl;have c1:=Z 1 _ rfl;have c2:=Z 2 _ rfl;simp only[Lu] at c0;have U:=ae ak;clear Z ag ak;have l:=ae (show oB (.mx r)=[109,117,116,101,120,32]++fW r by
     unfold oB fG fW;rw[bf,bf];simp[kw,fQ,Atom.bytes])
    have t:(fW r).length<=262144:=by
     have:=f.o;rw[l.o] at this;simp at this;omega
    have j:=ae t;have z:(strOf (fW r)).size<=262144:=by rw[aO];exact t
    clear t;by_cases h0:0<k
    ·
     have q:decide ((k:Int) > 0)=true:=by simp;omega
     have aL:=ae (show strOf (ji (aV.take k))++⟨#[44,32]⟩++⟨#[109,117,116,101,120,32]⟩++strOf (fW r)=strOf (ji (aV.take (k+1))) by
      rw[i.o,if_pos h0,l.o,show (⟨#[44,32]⟩:ByteArray)=strOf [44,32] from rfl,show (⟨#[109,117,116,101,120,32]⟩:ByteArray)=strOf [109,117,116,101,120,32] from rfl,ah,ah,ah]
      try simp)
     go_wp2_with(fail);refine(kO r cf.o s ce a6 rc wr U.o j.o).mono ?_;rintro e aS ⟨rfl,ar⟩;have bx:=ae (bo.trans ar);clear ar c0 c1 c2 bo;exact xO
    ·
     have q:decide ((k:Int) > 0)=false:=by simp;omega
     have aL:=ae (show strOf (ji (aV.take k))++⟨#[109,117,116,101,120,32]⟩++strOf (fW r)=strOf (ji (aV.take (k+1))) by
      rw[i.o,if_neg h0,l.o,show (⟨#[109,117,116,101,120,32]⟩:ByteArray)=strOf [109,117,116,101,120,32] from rfl,ah,ah]
      try simp)
     go_wp2_with(fail);refine(kO r cf.o s ce a6 rc wr U.o j.o).mono ?_;rintro e aS ⟨rfl,ar⟩;have bx:=ae (bo.trans ar);clear ar c0 c1 c2 bo
     exact xO
   | ex x=>
    obtain⟨bl,r1,op,bn,s,EA,em,ec,rfl,g⟩:=FN ag;have c0:=Z 0 _ rfl;have c1:=Z 3 _ rfl;have c2:=Z 4 _ rfl;have c3:=Z 5 _ rfl;have u:=Z 6 _ rfl;simp only[Lu] at c0;have m:=ae g;have z:(strOf (b0 x)).size<=262144:=cx;obtain⟨N,d,hx⟩:=cf.o;have aQ:=ae (jP N d x hx);clear Z ag g hx cf;by_cases h0:0<k
    ·
     have q:decide ((k:Int) > 0)=true:=by simp;omega
     have aL:=ae (show strOf (ji (aV.take k))++⟨#[44,32]⟩++strOf (b0 x)=strOf (ji (aV.take (k+1))) by
      rw[i.o,show oB (.ex x)=b0 x from rfl,if_pos h0,show (⟨#[44,32]⟩:ByteArray)=strOf [44,32] from rfl,ah,ah]
      try simp)
     go_wp2_with(fail);refine(aQ.o op bn s EA em ec wr m.o f.o).mono ?_;rintro e aS ⟨rfl,ar⟩;have bx:=ae (bo.trans ar);clear ar c0 c1 c2 c3 u bo;exact xO
    ·
     have q:decide ((k:Int) > 0)=false:=by simp;omega
     have aL:=ae (show strOf (ji (aV.take k))++strOf (b0 x)=strOf (ji (aV.take (k+1))) by
      rw[i.o,show oB (.ex x)=b0 x from rfl,if_neg h0,ah]
      try simp)
     go_wp2_with(fail);refine(aQ.o op bn s EA em ec wr m.o f.o).mono ?_;rintro e aS ⟨rfl,ar⟩;have bx:=ae (bo.trans ar);clear ar c0 c1 c2 c3 u bo;exact xO
  .obtain rfl:k=n:=ad;have aL:=ae (show strOf (ji (aV.take k))++⟨#[41]⟩=strOf (hY aV) by
    rw[sn,<-b8.o,List.take_length,<-ah];rfl)
   go_wp2;go_ret;exact⟨ret_str aL.o,bo.o⟩
inductive aA where
 | set (v:Bool) (n:ByteArray) (e:VE)
 | call (g:Bool) (n:ByteArray) (aV:List ds)
 | lock (u:Bool) (r:eS)
 | ite (e:VE) (th el:an)
 | gz (e:VE) (th:an)
 | ret
def an.list:an->List aA
 | .nil=>[]
 | .set v n e rest=>.set v n e::rest.list
 | .call g n aV rest=>.call g n aV::rest.list
 | .lock u r rest=>.lock u r::rest.list
 | .ite e th el rest=>.ite e th el::rest.list
 | .gz e th rest=>.gz e th::rest.list
 | .ret rest=>.ret::rest.list
def bj:aA->D
 | .set v n e=>gI (if v then 1 else 2) n (bp e) fY [] [] []
 | .call g n aV=>gI (if g then 4 else 3) n jR fY (aV.map gN) [] []
 | .lock u r=>gI (if u then 6 else 5) ⟨#[]⟩ jR (kG r) [] [] []
 | .ite e th el=>gI 7 ⟨#[]⟩ (bp e) fY [] (c6 th) (c6 el)
 | .gz e th=>gI 8 ⟨#[]⟩ (bp e) fY [] (c6 th) []
 | .ret=>gI 9 ⟨#[]⟩ jR fY [] [] []
theorem cG:∀b:an,c6 b=b.list.map bj
 | .nil=>rfl
 | .set v n e rest=>by simp only[c6,an.list,Lq,bj,cG rest]
 | .call g n aV rest=>by simp only[c6,an.list,Lq,bj,cG rest]
 | .lock u r rest=>by simp only[c6,an.list,Lq,bj,cG rest]
 | .ite e th el rest=>by simp only[c6,an.list,Lq,bj,cG rest]
 | .gz e th rest=>by simp only[c6,an.list,Lq,bj,cG rest]
 | .ret rest=>by simp only[c6,an.list,Lq,bj,cG rest]
def dx(t:Nat):aA->List UInt8
 | .set v n e=>List.replicate t 9++((if v then [118,97,114,32] else [])++(n.data.toList++([32,61,32]++(b0 e++[59,10]))))
 | .call g n aV=>List.replicate t 9++((if g then [103,111,32] else [])++(n.data.toList++(hY aV++[59,10])))
 | .lock u r=>List.replicate t 9++((if u then [117,110,108,111,99,107,32] else [108,111,99,107,32])++(fW r++[59,10]))
 | .ite e th el=>List.replicate t 9++([105,102,32]++(b0 e++([32,123,10]++(aY (aZ (t+1) th)++(List.replicate t 9++([125] ++
   ((if el.isNil then [] else [32,101,108,115,101,32,123,10]++(aY (aZ (t+1) el)++(List.replicate t 9++[125])))++[10])))))))
 | .gz e th=>List.replicate t 9++([119,104,105,108,101,32]++(b0 e++([32,123,10]++(aY (aZ (t+1) th)++(List.replicate t 9++[125,10])))))
 | .ret=>List.replicate t 9++[114,101,116,117,114,110,59,10]
def cF(t:Nat)(b:an):List UInt8:=aY (aZ t b)
theorem fJ(t:Nat):aY (fC t)=List.replicate t 9:=by
 induction t with
 | zero=>rfl
 | succ t ao=>unfold fC at *;rw[List.replicate_succ,bf,ao];rfl
theorem rN:aY []=[]:=rfl
theorem eW(t:Nat):∀b:an,cF t b=(b.list.map (dx t)).flatten
 | .nil=>rfl
 | .set v n e rest=>by
  have ao:=eW t rest;unfold cF at *;simp only[aZ,an.list,Lq,List.flatten_cons,<-ao,dx,bh,bf,fJ,b0]
  cases v<;>simp[Atom.bytes,kw,aY]
 | .call g n aV rest=>by
  have ao:=eW t rest;unfold cF at *;simp only[aZ,an.list,Lq,List.flatten_cons,<-ao,dx,bh,bf,fJ,hY]
  cases g<;>simp[Atom.bytes,kw,aY]
 | .lock u r rest=>by
  have ao:=eW t rest;unfold cF at *;simp only[aZ,an.list,Lq,List.flatten_cons,<-ao,dx,bh,bf,fJ,fW]
  cases u<;>simp[Atom.bytes,kw,aY]
 | .ite e th el rest=>by
  have ao:=eW t rest;unfold cF at *;simp only[aZ,an.list,Lq,List.flatten_cons,<-ao,dx,bh,bf,fJ,b0];cases hn:el.isNil
  .simp only[LS,if_false,bh,bf,fJ];simp[Atom.bytes,kw,rN]
  .simp only[if_true]
   simp[Atom.bytes,kw,rN]
 | .gz e th rest=>by
  have ao:=eW t rest;unfold cF at *;simp only[aZ,an.list,Lq,List.flatten_cons,<-ao,dx,bh,bf,fJ,b0]
  simp[Atom.bytes,kw]
 | .ret rest=>by
  have ao:=eW t rest;unfold cF at *;simp only[aZ,an.list,Lq,List.flatten_cons,<-ao,dx,bh,bf,fJ];simp[Atom.bytes,kw]
end Go.Proofs.YtkhnkojkplbioaaGreat
