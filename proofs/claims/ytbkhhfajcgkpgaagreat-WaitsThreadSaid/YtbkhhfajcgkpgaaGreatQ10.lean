/- Part 10 of the proof. No condition of its own. -/
import Derived.Test.YtbkhhfajcgkpgaaGreatQ06
namespace Go.Proofs.YtbkhhfajcgkpgaaGreat
open Go.RowKit Go.Proofs.Tryz
set_option maxRecDepth 1000000
set_option maxHeartbeats 25600000
set_option linter.unusedVariables false
variable{s:ByteArray}{d:Int}{acc:List Tok}{b cap f k n o:Nat}{p:UInt8→Bool}{ac w:World}
theorem tG{x:UInt8}(h:(x.toNat:Int)=d+48)(v:Int)(l:List UInt8):im v (x::l)=if (9223372036854775807 - d) / 10<v then -1 else im (10*v+d) l:=by
 simp only[im];rw[h,show d+48 - 48=d by omega]
theorem yb{v:Int}(h:v≤(9223372036854775807 - d) / 10)(hd:0≤d∧d≤9)(bD:0≤v):0≤10*v+d∧10*v+d≤9223372036854775807:=ab
theorem vE(s:ByteArray)(b o cap k n c:Nat)(w:World)(h:eU w b o cap s)(aj:k+n≤s.size)(hd:((s.data.toList.drop k).take n).all bm=true) :
  Calls prog 108 #[.slice (some ⟨b,o+k,none⟩) n c] w fun e ac=>e=.returned (.int .i64 (pL ((s.data.toList.drop k).take n)))∧w=ac:=by
 have H:=ad h;have U:=h.small;have df:=ad hd;clear h hd;go_enter func108,ntmps108;go_wp2
 go_loop [3,4] (fun a i=>∃(j:Nat) (v:Int),j≤n∧0≤v∧v≤9223372036854775807∧a=.int .i64 v∧i=.int .i64 j∧im v (((s.data.toList.drop k).take n).drop j)=pL ((s.data.toList.drop k).take n)) (fun _ i=>n - (intOf i).toNat)
 case atStart=>exact⟨0,0,Kc _,ab,ab,rfl,rfl,rfl⟩
 case round=>
  obtain⟨j,v,bc,r,d5,rfl,rfl,g⟩:=hrel;have u:=ad g;clear g;by_cases aw:j<n
  ·have hc:=H.byte (k:=k+j) ab;rw[←Nat.add_assoc] at hc;have f:((s.data.toList.drop k).take n)[j]?=some s[k+j]:=by
    rw[List.getElem?_take_of_lt aw,List.getElem?_drop];exact byte_at ab
   have m:bm s[k+j]=true:=List.all_eq_true.1 df.o _ (JT f);have q:48≤s[k+j].toNat∧s[k+j].toNat≤57:=by simpa[bm] using m
   have bA:((s.data.toList.drop k).take n).drop j=s[k+j]::((s.data.toList.drop k).take n).drop (j+1):=by
    have hl:=(List.getElem?_eq_some_iff.1 f)
    rw[List.drop_eq_getElem_cons hl.1,hl.2]
   have aP:=ad (u.symm.trans (congrArg (im v) bA));clear f m bA;generalize s[k+j]=x at *;obtain⟨d,l⟩:∃d:Int,(x.toNat:Int)=d+48:=⟨(x.toNat:Int) - 48,ab⟩
   rw[l] at hc;have ae:=ad l;have d0:0≤d:=ab;have d1:d≤9:=ab;clear l q;by_cases bg:(9223372036854775807 - d) / 10<v
   ·have aX:=ad (aP.trans ((tG ae.o v _).trans (if_pos bg)));go_wp2;go_ret;exact⟨ret_int aX.symm,rfl⟩
   ·have aX:=ad (aP.trans ((tG ae.o v _).trans (if_neg bg)));have bs:=ad (yb ab ⟨d0,d1⟩ r);go_wp2
    go_round
    case rel=>exact⟨j+1,10*v+d,ab,bs.1,bs.2,rfl,by go_num,aX.symm⟩
    case measure=>exact aB
  ·have Y:j=n:=ab;have aX:=ad (show v=pL ((s.data.toList.drop k).take n) by
    rw[←u.o,Y,Kj (by simp;omega)];rfl)
   clear Y;go_wp2;go_ret;exact⟨ret_int aX.o,rfl⟩
def qC(t:Tok):List Value:=[.int .i64 t.kind,.string (strOf t.text),.int .i64 t.num,.int .i64 t.pos]
theorem CT(l:List Tok):∀x∈l,(qC x).length=4:=fun _ _=>rfl
theorem k9(l:List Tok)(x:Tok):(l++[x]).flatMap qC=l.flatMap qC++qC x:=by
 rw[List.flatMap_append];simp
theorem oV:bX prog 126 147 (.agg #[.int .i64 0,.string ⟨#[]⟩,.int .i64 0,.int .i64 0]) 4 40:=bX.mk' Tryz.underlying126 (by kernel_rfl) rfl ab
theorem eU.Es(h:eU w b o cap s)(O:Below w.heap.size w ac):eU ac b o cap s:=h.on (Fr.of O)
def kb(w:World)(r:List Tok×Int×Int)(e:Ending)(ac:World):Prop:=
 ∃A n c,e=.returned (.tuple #[.slice A n c,.int .i64 r.2.1,.int .i64 r.2.2])∧n≤c∧cC (EF qC) 4 ac ac.heap.size A n r.1∧Below w.heap.size w ac
theorem kb.bad{p q:Int}{r:List Tok×Int×Int}(aU:r=([],p,q))(O:Below w.heap.size w ac):kb w r (.returned (.tuple #[.slice none 0 0,.int .i64 p,.int .i64 q])) ac:=by
 subst aU;exact⟨none,0,0,rfl,JQ _,cC.bG _,O⟩
structure s3(w wr:World)(s:ByteArray)(k:Nat)(acc:List Tok)(out:Value):Prop where
 own:wr.ownsRow w.heap.size 147 4 out acc.length (acc.flatMap qC)
 jm:acc.length≤4000
 le:k≤s.size
 skip:aP false (s.data.toList.drop k)=s.data.toList.drop k
 Ef:fv (s.size - k+1) s.size (s.data.toList.drop k) acc=dX s.data.toList
 below:Below w.heap.size w wr
theorem l9(s:ByteArray)(k:Nat):(s.data.toList.drop k).length=s.size - k:=by simp
theorem gV:∀(b:Bool) (l:List UInt8),∃n,aP b l=l.drop n∧n≤l.length
 | b,[]=>⟨0,by cases b<;>rfl,JQ _⟩
 | true,c::l=>by
  by_cases h:c=10
  ·obtain⟨n,ae,aC⟩:=gV false l;exact⟨n+1,by rw[aP,if_pos h,ae];rfl,by simp;omega⟩
  ·obtain⟨n,ae,aC⟩:=gV true l
   exact⟨n+1,by rw[aP,if_neg h,ae];rfl,by simp;omega⟩
 | false,c::l=>by
  by_cases h:oF c=true
  ·obtain⟨n,ae,aC⟩:=gV false l;exact⟨n+1,by rw[aP,if_pos h,ae];rfl,by simp;omega⟩
  ·by_cases aC:c=47∧l.head?=some 47
   ·obtain⟨n,ae,aT⟩:=gV true l;exact⟨n+1,by rw[aP,if_neg h,if_pos aC,ae];rfl,by simp;omega⟩
   ·exact⟨0,by rw[aP,if_neg h,if_neg aC];rfl,by simp⟩
theorem hZ:∀(b:Bool) (l:List UInt8),aP false (aP b l)=aP b l
 | b,[]=>by cases b<;>rfl
 | true,c::l=>by
  rw[aP];split
  ·exact hZ false l
  ·exact hZ true l
 | false,c::l=>by
  by_cases h:oF c=true
  ·rw[k0 h];exact hZ false l
  ·by_cases aC:c=47∧l.head?=some 47
   ·have e:aP false (c::l)=aP true l:=by rw[aP,if_neg h,if_pos aC]
    rw[e];exact hZ true l
   ·have e:aP false (c::l)=c::l:=by rw[aP,if_neg h,if_neg aC]
    rw[e,e]
theorem mG(s:ByteArray)(m:Nat)(hm:m≤s.size):∃k,m≤k∧k≤s.size∧aP false (s.data.toList.drop m)=s.data.toList.drop k∧aP false (s.data.toList.drop k)=s.data.toList.drop k∧(s.size:Int) - (aP false (s.data.toList.drop m)).length=k:=by
 obtain⟨n,ae,aC⟩:=gV false (s.data.toList.drop m);have hl:(s.data.toList.drop m).length=s.size - m:=by simp
 refine⟨m+n,ab,ab,?_,?_,?_⟩
 ·rw[ae,List.drop_drop]
 ·rw[←List.drop_drop,←ae];exact hZ _ _
 ·rw[ae,List.length_drop,hl];omega
theorem rj(f n:Nat)(l:List UInt8)(acc:List Tok):fv f n l acc=fv f n (aP false l) acc:=by
 cases f with
 | zero=>rfl
 | succ f=>unfold fv;rw[hZ]
theorem kU:∀(f g n:Nat) (l:List UInt8) (acc:List Tok),l.length<f→l.length<g→fv f n l acc=fv g n l acc
 | 0,g,n,l,acc,h,_=>ab
 | f+1,0,n,l,acc,_,h=>ab
 | f+1,g+1,n,l,acc,aD,aJ=>by
  unfold fv;have hs:=ju false l
  cases aj:aP false l with
  | nil=>rfl
  | cons c r=>
   rw[aj] at hs;simp only[J3] at hs;have e1:∀p:UInt8→Bool,p c=true→((c::r).dropWhile p).length<f∧((c::r).dropWhile p).length<g:=fun p hp=>by
    have:((c::r).dropWhile p).length≤r.length:=by
     rw[List.dropWhile_cons,if_pos hp];have:=(List.dropWhile_sublist p (l:=r)).length_le;exact this
    omega
   have e2:∀k,k≠0→((c::r).drop k).length<f∧((c::r).drop k).length<g:=fun k aj=>by
    simp only[List.length_drop,J3];omega
   simp only[];by_cases hl:bM c=true
   ·simp only[hl,if_true];have z:bV c=true:=by simp[bV,hl]
    rw[kU f g n _ _ (e1 _ z).1 (e1 _ z).2]
   ·simp only[hl,Kl,if_false];by_cases hd:bm c=true
    ·simp only[hd,if_true];rw[kU f g n _ _ (e1 _ hd).1 (e1 _ hd).2]
    ·simp only[hd,Kl,if_false];by_cases bi:eM (c::r)=0
     ·simp only[bi,if_true]
     ·simp only[bi,if_false];rw[kU f g n _ _ (e2 _ bi).1 (e2 _ bi).2]
theorem s3.next{wr b:World}{m F:Nat}{out a:Value}{t:Tok}(h:s3 w wr s k acc out)
  (S:b.ownsRow w.heap.size 147 4 a (acc.length+1) (acc.flatMap qC++qC t)) (hn:acc.length≠4000) (H:k<m) (hm:m≤s.size)
  (he:fv (s.size - k+1) s.size (s.data.toList.drop k) acc=fv (s.size - k) s.size (s.data.toList.drop m) (acc++[t])) (O:Below w.heap.size w b)
  (cd:m≤F) (cn:F≤s.size) (b1:aP false (s.data.toList.drop m)=s.data.toList.drop F) (bz:aP false (s.data.toList.drop F)=s.data.toList.drop F):s3 w b s F (acc++[t]) a:=by
 have aD:=h.jm;refine⟨by rw[k9,JS];exact S,by simp;omega,cn,bz,?_,O⟩;rw[←h.Ef,he,rj (s.size - k),b1];exact y8
theorem vv(s:ByteArray)(hs:s.size≤262144)(ae:aP false (s.data.toList.drop 0)=s.data.toList.drop k):fv (s.size - k+1) s.size (s.data.toList.drop k) []=dX s.data.toList:=by
 have hl:s.data.toList.length=s.size:=by simp
 have g:aP false s.data.toList=s.data.toList.drop k:=by simpa using ae
 unfold dX;rw[hl,if_neg ab,rj (s.size+1),g];exact y8
theorem CU(f n:Nat)(acc:List Tok):fv (f+1) n [] acc=(acc++[⟨5,[],0,(n:Int)⟩],(n:Int),0):=by simp[fv,aP]
theorem ug:s.data.toList.drop k=(s.data.toList.drop k).take n++s.data.toList.drop (k+n):=by
 rw[←List.drop_drop,List.take_append_drop]
theorem rn(h:∀hl:k+n<s.size,p (s[k+n]'hl)=false):∀c,(s.data.toList.drop (k+n)).head?=some c→p c=false:=by
 intro c hc;by_cases hl:k+n<s.size
 ·rw[cR hl] at hc;simp at hc;subst hc;exact h hl
 ·rw[Kj (by simp;omega)] at hc;cases hc
theorem sr(h:k<s.size):((s.size:Nat):Int) - ((s.data.toList.drop (k+1)).length+1)=(k:Int):=by rw[l9];omega
theorem x1(aj:k<s.size)(g:aP false (s.data.toList.drop k)=s.data.toList.drop k)(hl:bM s[k]=true)(aK:((s.data.toList.drop k).take n).all bV=true)
  (r:∀h:k+n<s.size,bV (s[k+n]'h)=false) :
  fv (f+1) s.size (s.data.toList.drop k) acc=if (!dr ((s.data.toList.drop k).take n) && decide (16<((s.data.toList.drop k).take n).length))=true then ([],(k:Int),3)
   else if acc.length=4000 then ([],(k:Int),3) else fv f s.size (s.data.toList.drop (k+n)) (acc++[⟨if dr ((s.data.toList.drop k).take n) then 3 else 1,(s.data.toList.drop k).take n,0,(k:Int)⟩]):=by
 have o:=gL aK (rn r);rw[←ug] at o;rw[fv,g];rw[cR aj] at o ⊢;simp only[hl,if_true,o.1,o.2,sr aj]
theorem CV(aj:k<s.size)(g:aP false (s.data.toList.drop k)=s.data.toList.drop k)(hl:bM s[k]=false)(hd:bm s[k]=true)(aK:((s.data.toList.drop k).take n).all bm=true)
  (r:∀h:k+n<s.size,bm (s[k+n]'h)=false) :
  fv (f+1) s.size (s.data.toList.drop k) acc=if pL ((s.data.toList.drop k).take n)<0 then ([],(k:Int),2)
   else if acc.length=4000 then ([],(k:Int),3) else fv f s.size (s.data.toList.drop (k+n)) (acc++[⟨2,(s.data.toList.drop k).take n,pL ((s.data.toList.drop k).take n),(k:Int)⟩]):=by
 have o:=gL aK (rn r);rw[←ug] at o;rw[fv,g];rw[cR aj] at o ⊢;simp only[hl,hd,Kl,if_false,if_true,o.1,o.2,sr aj]
theorem x0(aj:k<s.size)(g:aP false (s.data.toList.drop k)=s.data.toList.drop k)(hl:bM s[k]=false)(hd:bm s[k]=false):
  fv (f+1) s.size (s.data.toList.drop k) acc=if eM (s.data.toList.drop k)=0 then ([],(k:Int),1)
   else if acc.length=4000 then ([],(k:Int),3) else fv f s.size (s.data.toList.drop (k+eM (s.data.toList.drop k))) (acc++[⟨4,(s.data.toList.drop k).take (eM (s.data.toList.drop k)),0,(k:Int)⟩]):=by
 have aC:s.data.toList.drop (k+eM (s.data.toList.drop k))=(s.data.toList.drop k).drop (eM (s.data.toList.drop k)):=by rw[List.drop_drop]
 rw[aC,fv,g];rw[cR aj];simp only[hl,hd,Kl,if_false,sr aj]
theorem Dj(l:List UInt8)(h:l≠[]):eM l≤l.length:=by
 unfold eM
 have:1≤l.length:=by cases l with
  | nil=>exact absurd rfl h
  | cons=>simp
 split
 ·rename_i aQ;simp only[J2,Kk] at aQ;exact aQ.2
 ·split<;>omega
theorem oT(hl:k+n<s.size)(h:((s.data.toList.drop k).take n).all p=true)(hp:p (s[k+n]'hl)=true):((s.data.toList.drop k).take (n+1)).all p=true:=by
 have aJ:(s.data.toList.drop k)[n]?=some (s[k+n]'hl):=by rw[List.getElem?_drop];exact byte_at hl
 rw[a9 aJ,List.all_append,h];simp[hp]
theorem gI(hc:s.size≤cap)(hn:0<n)(aj:k+n≤s.size)(W:World):
  (Instr.slice 85 (.slice (some ⟨b,o,none⟩) s.size cap) (some (.int .i64 (k:Int))) (some (.int .i64 ((k:Int)+(n:Int)))) none).run prog W=.ok (.slice (some ⟨b,o+k,none⟩) n (cap - k)) W:=nn hc hn aj W
theorem qK(s:ByteArray)(k n:Nat):strOf ((s.data.toList.drop k).take n)=s.extract k (k+n):=by rw[←fQ,v9]
structure s6(wr X:World)(kind num:Int)(k:Nat):Prop where
 below:Below wr.heap.size wr X
 blk:af X wr.heap.size 147 #[.int .i64 kind,.string ⟨#[]⟩,.int .i64 num,.int .i64 k]
 lt:wr.heap.size<X.heap.size
theorem xd(s:ByteArray)(b o cap:Nat)(w:World)(h:eU w b o cap s)(hs:s.size≤262144) :
  Calls prog 70 #[.slice (some ⟨b,o,none⟩) s.size cap] w (kb w (dX s.data.toList)):=by
 have H:=ad h;have K:=h.fit;clear h;go_enter func70,ntmps70;go_wp2_with(fail);refine(show Calls prog 104 #[.slice (some ⟨b,o,none⟩) s.size cap,.int .i64 0] _ _ from kD s b o cap 0 _ H.o (Kc _)).mono ?_;rintro e ac ⟨rfl,rfl⟩;obtain⟨cz,_,I,ae,aC,aT⟩:=mG s 0 (Kc _);rw[aT];have au:=ad (show s3 w w s cz [] (.slice none 0 0) from ⟨⟨by simp,.inl ⟨rfl,rfl⟩⟩,by simp,I,aC,vv s hs ae,Below.refl _ _⟩);clear ae aC aT;go_wp2_with(fail);go_loopw [5,6] (fun out i wr=>∃(k:Nat) (acc:List Tok),i=.int .i64 k∧s3 w wr s k acc out) (fun _ i _=>s.size+1 - (intOf i).toNat)
 case atStart=>exact⟨cz,[],rfl,au.o⟩
 case round=>
  obtain⟨k,acc,rfl,bR⟩:=hrel;have bK:=ad bR;clear au I;obtain⟨A,c,aG,bS,_,_,_⟩:=bs bR.own;subst aG;have J:=bR.jm;have hle:=bR.le;clear bR;by_cases aw:k<s.size
  case neg=>
   have cK:k=s.size:=ab;have q:((k:Int) == (s.size:Int))=true:=by simp;omega
   have aX:=ad (show dX s.data.toList=(acc++[⟨5,[],0,(s.size:Int)⟩],(s.size:Int),0) by
    rw[←bK.Ef,cK,Kj (by simp)];exact CU _ _ _)
   subst cK;go_wp2_with((at_builtin;refine ch wr oV rfl (.tmp 21) (.tmp 24) rfl w.heap.size _ _ _ #[.int .i64 5,.string ⟨#[]⟩,.int .i64 0,.int .i64 s.size] rfl bK.own rfl rfl (by simp[Value.oneCell']) ab ab bK.below.size ?_;intro v2 aO ag an E;obtain⟨A2,c2,rfl,P,_⟩:=bs ag))
   go_ret3
   rw[aX.o];refine⟨A2,acc.length+1,c2,rfl,P,gS (l:=acc++[⟨5,[],0,(s.size:Int)⟩]) (by rw[k9];exact ag) (CT _) (by simp),?_⟩;exact dJ bK.below bK.own an (JQ _) bK.below.size
  have q:((k:Int) == (s.size:Int))=false:=by simp;omega
  have hc:=H.Es bK.below;have aN:=hc.byte aw;have aP:=hc.lt;have T:∀(j:Nat) (bc:j<s.size) (cs:Array Value) (t:TypeId),(wr.alloc (.cells cs t)).cell? ⟨b,o+j,none⟩=some (.int .u8 (s[j].toNat:Int)):=fun j bc cs t=>(hc.on (Kn.alloc _)).byte bc;obtain⟨bL,az⟩:=aM hc T;have cj:=T k aw #[.int .i64 0,.string ⟨#[]⟩,.int .i64 0,.int .i64 k] 147;clear hc T;go_wp2_with(fail);refine(lN s[k] _).mono ?_;rintro e ac ⟨rfl,rfl⟩;by_cases hl:bM s[k]=true
  ·rw[hl];have aF:=ad hl;clear hl cj;go_wp2_with(fail)
   go_loop [8] (fun e=>∃n:Nat,k+n≤s.size∧e=.int .i64 ((k:Int)+(n:Int))∧((s.data.toList.drop k).take n).all bV=true) (fun e=>s.size+1 - (intOf e).toNat)
   case atStart=>exact⟨0,ab,by simp,by simp⟩
   case round=>
    obtain⟨n,hn,rfl,aK⟩:=hrel;have HA:=ad aK;clear aK;have t1:((k:Int)+(n:Int)).toNat=k+n:=ab;have aD:(0:Int)≤(k:Int)+(n:Int):=ab;by_cases co:k+n<s.size
    case' pos=>
     have cr:=az.o (k+n) co #[.int .i64 0,.string ⟨#[]⟩,.int .i64 0,.int .i64 k] 147;have bq:(k:Int)+(n:Int)<(s.size:Int):=ab;go_wp2_with(fail);refine(lN s[k+n] _).mono ?_;rintro e ac ⟨rfl,rfl⟩;by_cases am:bM s[k+n]=true
     ·rw[am];have cD:=ad (oT (p:=bV) co HA.o (by simp[bV,am]));clear am;go_wp2
      go_round
      case rel=>exact⟨n+1,ab,by simp;omega,cD.o⟩
      case measure=>exact aB
     have ap:bM s[k+n]=false:=by simpa using am
     rw[ap];have M:=ad ap;clear am ap;go_wp2_with(fail);refine(kK s[k+n] _).mono ?_;rintro e ac ⟨rfl,rfl⟩;by_cases bX:bm s[k+n]=true
     ·rw[bX];have cD:=ad (oT (p:=bV) co HA.o (by simp[bV,bX]));clear bX;go_wp2
      go_round
      case rel=>exact⟨n+1,ab,by simp;omega,cD.o⟩
      case measure=>exact aB
     have C:bm s[k+n]=false:=by simpa using bX
     rw[C];have z:bV s[k+n]=false:=by simp[bV,M.o,C]
     have ao:=ad (show 0<n from by
      rcases Nat.eq_zero_or_pos n with h0|h0
      ·subst h0;have:=M.o;simp only[J0] at this;rw[aF.o] at this;cases this
      ·exact h0)
     have O:=ad (show ∀h:k+n<s.size,bV (s[k+n]'h)=false from fun _=>z);clear bX C z cr
    case' neg=>
     have bq:decide ((k:Int)+(n:Int)<(s.size:Int))=false:=by simp;omega
     have ao:=ad (show 0<n by omega);have O:=ad (show ∀h:k+n<s.size,bV (s[k+n]'h)=false from fun h=>absurd h co)
    all_goals
     have bQ:0<n:=ao.o;have y:=ad (bK.Ef.symm.trans (x1 (f:=s.size - k) (acc:=acc) aw bK.skip aF.o HA.o O.o));have s2:=fun W=>gI (b:=b) (o:=o) K bQ hn W;have c2:=fun(cs:Array Value) (t:TypeId)=>jV (bL.on (Kn.alloc (.cells cs t))) (k:=k) (n:=n) (cap - k) hn;go_wp2_with(fail);refine(mE (s.extract k (k+n)) _).mono ?_;rintro e aO ⟨rfl,bx⟩;clear s2 c2;have d:s6 wr aO 1 0 k:=by
      have e1:Ext wr aO:=(Kn.alloc _).trans bx;have ar:=(af.new wr 147 #[.int .i64 1,.string ⟨#[]⟩,.int .i64 0,.int .i64 k]).ak bx;exact⟨Fr.ext e1,ar,ar.lt⟩
     clear bx;have Q:=ad d;obtain⟨Z,av,ax⟩:=d.blk.two;clear d;have aI:hY (s.extract k (k+n))=dr ((s.data.toList.drop k).take n):=by unfold hY;rw[fQ]
     rw[aI];clear aI;have hlen:((s.data.toList.drop k).take n).length=n:=by simp;omega
     by_cases aU:dr ((s.data.toList.drop k).take n)=true
     ·rw[aU] at y ⊢;have a2:=ad (y.o);clear aU hlen y;simp only[Bool.not_true,Bool.false_and,Kl,if_false,if_true] at a2;go_upto_region 28 with(fail);generalize hX:World.setCell aO _ _=X;have r:s6 wr X 3 0 k:=by
       exact FJ
      clear hX Z av ax;have L:=ad r;obtain⟨br,ah,bj⟩:=r.blk.two;clear r;by_cases a9:acc.length=4000
      ·have cF:((acc.length:Int) == 4000)=true:=by simp;omega
       have S:(acc.length == 4000)=true:=by simp;omega
       have aX:=ad (a2.trans (if_pos a9));clear a9;go_wp2
       go_ret3
       exact wP
      have cF:((acc.length:Int) == 4000)=false:=by simp;omega
      have S:(acc.length == 4000)=false:=by simp;omega
      have aX:=ad (a2.trans (if_neg a9));have R:=ad a9;clear a9;have D:eU X b o cap s:=bL.Es L.below;have aj:=fun W=>gI (b:=b) (o:=o) K bQ hn W;have c3:=jV D (k:=k) (n:=n) (cap - k) hn;have ay:=ad D;clear D;go_upto_region 31 with(fail);generalize b6:World.setCell X _ _=Y;have u:Below wr.heap.size wr Y:=b6▸L.below.setCell (p:=⟨wr.heap.size,1,none⟩) (JQ _) _;have ak:af Y wr.heap.size 147 #[.int .i64 3,.string (s.extract k (k+n)),.int .i64 0,.int .i64 k]:=b6▸L.blk.aC 1 _;obtain⟨aa,U,V⟩:=ak.two;have x:=ad u;clear b6 u ak br ah bj aj c3;go_wp2_with((at_builtin;refine ch Y oV rfl (.tmp 119) (.tmp 121) rfl w.heap.size _ _ _ #[.int .i64 3,.string (s.extract k (k+n)),.int .i64 0,.int .i64 k] rfl (b5 bK.own x.o) rfl rfl (by simp[Value.oneCell']) ab ab (J7 bK.below.size x.size) ?_;intro v2 cx ag an E;obtain⟨A2,c2,rfl,P,_⟩:=bs ag));have aH:Below w.heap.size w cx:=dJ (bK.below.trans (x.mono bK.below.size)) (b5 bK.own x.o) an (JQ _) (J7 bK.below.size x.size);have N:=ai aH ag;clear aH ag an E aa U V;have g:=kD s b o cap (k+n) cx (H.Es N.1) hn;rw[Int.natCast_add] at g;refine g.mono ?_;clear g;rintro e ac ⟨rfl,rfl⟩;obtain⟨F,cd,cn,b1,bz,cu⟩:=mG s (k+n) hn;rw[cu];have bu:=ai b1 bz;clear b1 bz cu;go_wp2;go_roundw
      case rel=>
       refine⟨F,acc++[⟨3,(s.data.toList.drop k).take n,0,(k:Int)⟩],rfl,bK.next (m:=k+n) ?_ R.o ab hn (bK.Ef.trans aX.o) N.1 cd cn bu.1 bu.2⟩;exact wS
      case measure=>exact aB
     have al:dr ((s.data.toList.drop k).take n)=false:=by simpa using aU
     rw[al] at y ⊢;by_cases aq:16<n
     ·have a2:=ad (y.trans (if_pos (by rw[hlen];simp[aq])));clear aU al hlen;go_wp2
      go_ret3
      exact kb.bad a2.o (bK.below.trans (Q.below.mono bK.below.size))
     have a2:=ad (y.trans (if_neg (by rw[hlen];simp[aq])));simp only[Kl,if_false] at a2;clear aU al hlen y;go_upto_region 28 with(fail);have X:World:=aO;clear X;generalize aO=X at *;have r:=Q.o;clear Z av ax;have L:=ad r;obtain⟨br,ah,bj⟩:=r.blk.two;clear r;by_cases a9:acc.length=4000
     ·have cF:((acc.length:Int) == 4000)=true:=by simp;omega
      have S:(acc.length == 4000)=true:=by simp;omega
      have aX:=ad (a2.trans (if_pos a9));clear a9;go_wp2
      go_ret3
      exact wP
     have cF:((acc.length:Int) == 4000)=false:=by simp;omega
     have S:(acc.length == 4000)=false:=by simp;omega
     have aX:=ad (a2.trans (if_neg a9));have R:=ad a9;clear a9;have D:eU X b o cap s:=bL.Es L.below;have aj:=fun W=>gI (b:=b) (o:=o) K bQ hn W;have c3:=jV D (k:=k) (n:=n) (cap - k) hn;have ay:=ad D;clear D;go_upto_region 31 with(fail);generalize b6:World.setCell X _ _=Y;have u:Below wr.heap.size wr Y:=b6▸L.below.setCell (p:=⟨wr.heap.size,1,none⟩) (JQ _) _;have ak:af Y wr.heap.size 147 #[.int .i64 1,.string (s.extract k (k+n)),.int .i64 0,.int .i64 k]:=b6▸L.blk.aC 1 _;obtain⟨aa,U,V⟩:=ak.two;have x:=ad u;clear b6 u ak br ah bj aj c3;go_wp2_with((at_builtin;refine ch Y oV rfl (.tmp 119) (.tmp 121) rfl w.heap.size _ _ _ #[.int .i64 1,.string (s.extract k (k+n)),.int .i64 0,.int .i64 k] rfl (b5 bK.own x.o) rfl rfl (by simp[Value.oneCell']) ab ab (J7 bK.below.size x.size) ?_;intro v2 cx ag an E;obtain⟨A2,c2,rfl,P,_⟩:=bs ag));have aH:Below w.heap.size w cx:=dJ (bK.below.trans (x.mono bK.below.size)) (b5 bK.own x.o) an (JQ _) (J7 bK.below.size x.size);have N:=ai aH ag;clear aH ag an E aa U V;have g:=kD s b o cap (k+n) cx (H.Es N.1) hn;rw[Int.natCast_add] at g;refine g.mono ?_;clear g;rintro e ac ⟨rfl,rfl⟩;obtain⟨F,cd,cn,b1,bz,cu⟩:=mG s (k+n) hn;rw[cu];have bu:=ai b1 bz;clear b1 bz cu;go_wp2;go_roundw
     case rel=>
      refine⟨F,acc++[⟨1,(s.data.toList.drop k).take n,0,(k:Int)⟩],rfl,bK.next (m:=k+n) ?_ R.o ab hn (bK.Ef.trans aX.o) N.1 cd cn bu.1 bu.2⟩;exact wS
     case measure=>exact aB
  have aL:bM s[k]=false:=by simpa using hl
  rw[aL];have aE:=ad aL;clear hl aL;go_wp2_with(fail);refine(kK s[k] _).mono ?_;rintro e ac ⟨rfl,rfl⟩;by_cases hd:bm s[k]=true
  ·rw[hd];have aA:=ad hd;clear hd cj;go_wp2_with(fail)
   go_loop [8] (fun e=>∃n:Nat,k+n≤s.size∧e=.int .i64 ((k:Int)+(n:Int))∧((s.data.toList.drop k).take n).all bm=true) (fun e=>s.size+1 - (intOf e).toNat)
   case atStart=>exact⟨0,ab,by simp,by simp⟩
   case round=>
    obtain⟨n,hn,rfl,aK⟩:=hrel;have HA:=ad aK;clear aK;have t1:((k:Int)+(n:Int)).toNat=k+n:=ab;have aD:(0:Int)≤(k:Int)+(n:Int):=ab;by_cases co:k+n<s.size
    case' pos=>
     have cr:=az.o (k+n) co #[.int .i64 0,.string ⟨#[]⟩,.int .i64 0,.int .i64 k] 147;have bq:(k:Int)+(n:Int)<(s.size:Int):=ab;go_wp2_with(fail);refine(kK s[k+n] _).mono ?_;rintro e ac ⟨rfl,rfl⟩;by_cases bX:bm s[k+n]=true
     ·rw[bX];have cD:=ad (oT (p:=bm) co HA.o bX);clear bX;go_wp2
      go_round
      case rel=>exact⟨n+1,ab,by simp;omega,cD.o⟩
      case measure=>exact aB
     have C:bm s[k+n]=false:=by simpa using bX
     rw[C];have ao:=ad (show 0<n from by
      rcases Nat.eq_zero_or_pos n with h0|h0
      ·subst h0;simp only[J0] at C;rw[aA.o] at C;cases C
      ·exact h0)
     have O:=ad (show ∀h:k+n<s.size,bm (s[k+n]'h)=false from fun _=>C);clear bX C cr
    case' neg=>
     have bq:decide ((k:Int)+(n:Int)<(s.size:Int))=false:=by simp;omega
     have ao:=ad (show 0<n by omega);have O:=ad (show ∀h:k+n<s.size,bm (s[k+n]'h)=false from fun h=>absurd h co)
    all_goals
     have bQ:0<n:=ao.o;have y:=ad (bK.Ef.symm.trans (CV (f:=s.size - k) (acc:=acc) aw bK.skip aE.o aA.o HA.o O.o));have s2:=fun W=>gI (b:=b) (o:=o) K bQ hn W;go_wp2_with(fail);refine(vE s b o cap k n (cap - k) _ (bL.on (Kn.alloc _)) hn HA.o).mono ?_;rintro e ac ⟨rfl,rfl⟩;clear s2;generalize pL ((s.data.toList.drop k).take n)=v at *;by_cases bD:v<0
     ·have a2:=ad (y.trans (if_pos bD));have aQ:decide (v<0)=true:=by simpa using bD
      clear y;go_wp2
      go_ret3
      exact kb.bad a2.o (bK.below.trans (((Below.refl _ _).alloc (JQ _) _).mono bK.below.size))
     have a2:=ad (y.trans (if_neg bD));have aQ:decide (v<0)=false:=by simpa using bD
     clear y bD;go_upto_region 28 with(fail);generalize hX:World.alloc wr _=X;have r:s6 wr X 2 v k:=by
      rw[←hX];exact⟨(Below.refl _ _).alloc (JQ _) _,Ko,by simp⟩
     clear hX;have L:=ad r;obtain⟨br,ah,bj⟩:=r.blk.two;clear r;by_cases a9:acc.length=4000
     ·have cF:((acc.length:Int) == 4000)=true:=by simp;omega
      have S:(acc.length == 4000)=true:=by simp;omega
      have aX:=ad (a2.trans (if_pos a9));clear a9;go_wp2
      go_ret3
      exact wP
     have cF:((acc.length:Int) == 4000)=false:=by simp;omega
     have S:(acc.length == 4000)=false:=by simp;omega
     have aX:=ad (a2.trans (if_neg a9));have R:=ad a9;clear a9;have D:eU X b o cap s:=bL.Es L.below;have aj:=fun W=>gI (b:=b) (o:=o) K bQ hn W;have c3:=jV D (k:=k) (n:=n) (cap - k) hn;have ay:=ad D;clear D;go_upto_region 31 with(fail);generalize b6:World.setCell X _ _=Y;have u:Below wr.heap.size wr Y:=b6▸L.below.setCell (p:=⟨wr.heap.size,1,none⟩) (JQ _) _;have ak:af Y wr.heap.size 147 #[.int .i64 2,.string (s.extract k (k+n)),.int .i64 v,.int .i64 k]:=b6▸L.blk.aC 1 _;obtain⟨aa,U,V⟩:=ak.two;have x:=ad u;clear b6 u ak br ah bj aj c3;go_wp2_with((at_builtin;refine ch Y oV rfl (.tmp 119) (.tmp 121) rfl w.heap.size _ _ _ #[.int .i64 2,.string (s.extract k (k+n)),.int .i64 v,.int .i64 k] rfl (b5 bK.own x.o) rfl rfl (by simp[Value.oneCell']) ab ab (J7 bK.below.size x.size) ?_;intro v2 cx ag an E;obtain⟨A2,c2,rfl,P,_⟩:=bs ag));have aH:Below w.heap.size w cx:=dJ (bK.below.trans (x.mono bK.below.size)) (b5 bK.own x.o) an (JQ _) (J7 bK.below.size x.size);have N:=ai aH ag;clear aH ag an E aa U V;have g:=kD s b o cap (k+n) cx (H.Es N.1) hn;rw[Int.natCast_add] at g;refine g.mono ?_;clear g;rintro e ac ⟨rfl,rfl⟩;obtain⟨F,cd,cn,b1,bz,cu⟩:=mG s (k+n) hn;rw[cu];have bu:=ai b1 bz;clear b1 bz cu;go_wp2;go_roundw
     case rel=>
      refine⟨F,acc++[⟨2,(s.data.toList.drop k).take n,v,(k:Int)⟩],rfl,bK.next (m:=k+n) ?_ R.o ab hn (bK.Ef.trans aX.o) N.1 cd cn bu.1 bu.2⟩;exact wS
     case measure=>exact aB
  have G:bm s[k]=false:=by simpa using hd
  rw[G];have aJ:=ad G;clear hd G cj;go_wp2_with(fail);refine(Dk s b o cap k _ (bL.on (Kn.alloc _)) aw).mono ?_;rintro e aO ⟨rfl,bx⟩;have d:s6 wr aO 0 0 k:=by
   have e1:Ext wr aO:=(Kn.alloc _).trans bx;have ar:=(af.new wr 147 #[.int .i64 0,.string ⟨#[]⟩,.int .i64 0,.int .i64 k]).ak bx;exact⟨Fr.ext e1,ar,ar.lt⟩
  clear bx;have Q:=ad d;obtain⟨Z,av,ax⟩:=d.blk.two;clear d;have y:=ad (bK.Ef.symm.trans (x0 (f:=s.size - k) (acc:=acc) aw bK.skip aE.o aJ.o));have bB:=Dj (s.data.toList.drop k) (by rw[cR aw];simp);rw[l9] at bB;generalize eM (s.data.toList.drop k)=n at *;have hn:k+n≤s.size:=ab;by_cases bi:n=0
  ·have bP:(((k:Int)+(n:Int)) == (k:Int))=true:=by simp;omega
   have a2:=ad (y.trans (if_pos bi));have bl:(n:Int)=0:=ab;subst bi;clear y bP bl;go_wp2
   go_ret3
   exact kb.bad a2.o (bK.below.trans ((Q.below.setCell (p:=⟨wr.heap.size,0,none⟩) (JQ _) _).mono bK.below.size))
  have bP:(((k:Int)+(n:Int)) == (k:Int))=false:=by simp;omega
  have a2:=ad (y.trans (if_neg bi));have bQ:0<n:=ab;clear y bi;go_upto_region 28 with(fail);generalize hX:World.setCell aO _ _=X;have r:s6 wr X 4 0 k:=by
   exact FJ
  clear hX Z av ax;have L:=ad r;obtain⟨br,ah,bj⟩:=r.blk.two;clear r;by_cases a9:acc.length=4000
  ·have cF:((acc.length:Int) == 4000)=true:=by simp;omega
   have S:(acc.length == 4000)=true:=by simp;omega
   have aX:=ad (a2.trans (if_pos a9));clear a9;go_wp2
   go_ret3
   exact wP
  have cF:((acc.length:Int) == 4000)=false:=by simp;omega
  have S:(acc.length == 4000)=false:=by simp;omega
  have aX:=ad (a2.trans (if_neg a9));have R:=ad a9;clear a9;have D:eU X b o cap s:=bL.Es L.below;have aj:=fun W=>gI (b:=b) (o:=o) K bQ hn W;have c3:=jV D (k:=k) (n:=n) (cap - k) hn;have ay:=ad D;clear D;go_upto_region 31 with(fail);generalize b6:World.setCell X _ _=Y;have u:Below wr.heap.size wr Y:=b6▸L.below.setCell (p:=⟨wr.heap.size,1,none⟩) (JQ _) _;have ak:af Y wr.heap.size 147 #[.int .i64 4,.string (s.extract k (k+n)),.int .i64 0,.int .i64 k]:=b6▸L.blk.aC 1 _;obtain⟨aa,U,V⟩:=ak.two;have x:=ad u;clear b6 u ak br ah bj aj c3;go_wp2_with((at_builtin;refine ch Y oV rfl (.tmp 119) (.tmp 121) rfl w.heap.size _ _ _ #[.int .i64 4,.string (s.extract k (k+n)),.int .i64 0,.int .i64 k] rfl (b5 bK.own x.o) rfl rfl (by simp[Value.oneCell']) ab ab (J7 bK.below.size x.size) ?_;intro v2 cx ag an E;obtain⟨A2,c2,rfl,P,_⟩:=bs ag));have aH:Below w.heap.size w cx:=dJ (bK.below.trans (x.mono bK.below.size)) (b5 bK.own x.o) an (JQ _) (J7 bK.below.size x.size);have N:=ai aH ag;clear aH ag an E aa U V;have g:=kD s b o cap (k+n) cx (H.Es N.1) hn;rw[Int.natCast_add] at g;refine g.mono ?_;clear g;rintro e ac ⟨rfl,rfl⟩;obtain⟨F,cd,cn,b1,bz,cu⟩:=mG s (k+n) hn;rw[cu];have bu:=ai b1 bz;clear b1 bz cu;go_wp2;go_roundw
  case rel=>
   refine⟨F,acc++[⟨4,(s.data.toList.drop k).take n,0,(k:Int)⟩],rfl,bK.next (m:=k+n) ?_ R.o ab hn (bK.Ef.trans aX.o) N.1 cd cn bu.1 bu.2⟩;exact wS
  case measure=>exact aB
end Go.Proofs.YtbkhhfajcgkpgaaGreat
