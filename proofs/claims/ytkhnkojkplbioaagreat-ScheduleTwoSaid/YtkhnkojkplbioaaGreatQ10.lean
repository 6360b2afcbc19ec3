/- Part 10 of the proof. No condition of its own. -/
import Derived.Test.YtkhnkojkplbioaaGreatQ06
namespace Go.Proofs.YtkhnkojkplbioaaGreat
open Go.RowKit Go.Proofs.Tryz
set_option maxRecDepth 1000000
set_option maxHeartbeats 25600000
set_option linter.unusedVariables false
variable{s:ByteArray}{d:Int}{acc:List Tok}{b cap f k n o:Nat}{p:UInt8->Bool}{ab w:World}
theorem uQ{x:UInt8}(h:(x.toNat:Int)=d+48)(v:Int)(l:List UInt8):iL v (x::l)=if (9223372036854775807 - d) / 10<v then -1 else iL (10*v+d) l:=by
 simp only[iL];rw[h,show d+48 - 48=d by omega]
theorem za{v:Int}(h:v<=(9223372036854775807 - d) / 10)(hd:0<=d/\d<=9)(bG:0<=v):0<=10*v+d/\10*v+d<=9223372036854775807:=ad
theorem wW(s:ByteArray)(b o cap k n c:Nat)(w:World)(h:fx w b o cap s)(ap:k+n<=s.size)(hd:((s.data.toList.drop k).take n).all bF=true) :
  Calls prog 144 #[.slice (some ⟨b,o+k,none⟩) n c] w λe ab=>e=.returned (.int .i64 (qy ((s.data.toList.drop k).take n)))/\w=ab:=by
 have H:=ae h;have bI:=h.small;have cb:=ae hd;clear h hd;go_enter func144,ntmps144;go_wp2
 go_loop [3,4] (λa i=>∃(j:Nat) (v:Int),j<=n/\0<=v/\v<=9223372036854775807/\a=.int .i64 v/\i=.int .i64 j/\iL v (((s.data.toList.drop k).take n).drop j)=qy ((s.data.toList.drop k).take n)) (λ_ i=>n - (intOf i).toNat)
 case atStart=>exact⟨0,0,LJ _,ad,ad,rfl,rfl,rfl⟩
 case round=>
  obtain⟨j,v,bi,q,eh,rfl,rfl,g⟩:=hrel;have t:=ae g;clear g;by_cases al:j<n
  .have hc:=H.byte (k:=k+j) ad;rw[<-Nat.add_assoc] at hc;have f:((s.data.toList.drop k).take n)[j]?=some s[k+j]:=by
    rw[List.getElem?_take_of_lt al,List.getElem?_drop];exact byte_at ad
   have l:bF s[k+j]=true:=List.all_eq_true.1 cb.o _ (Ln f);have m:48<=s[k+j].toNat/\s[k+j].toNat<=57:=by simpa[bF] using l
   have bA:((s.data.toList.drop k).take n).drop j=s[k+j]::((s.data.toList.drop k).take n).drop (j+1):=by
    have hl:=(List.getElem?_eq_some_iff.1 f)
    rw[List.drop_eq_getElem_cons hl.1,hl.2]
   have aQ:=ae (t.symm.trans (congrArg (iL v) bA));clear f l bA;generalize s[k+j]=x at *;obtain⟨d,M⟩:∃d:Int,(x.toNat:Int)=d+48:=⟨(x.toNat:Int) - 48,ad⟩
   rw[M] at hc;have Q:=ae M;have d0:0<=d:=ad;have d1:d<=9:=ad;clear M m;by_cases a6:(9223372036854775807 - d) / 10<v
   .have a3:=ae (aQ.trans ((uQ Q.o v _).trans (if_pos a6)));go_wp2;go_ret;exact⟨ret_int a3.symm,rfl⟩
   .have a3:=ae (aQ.trans ((uQ Q.o v _).trans (if_neg a6)));have bO:=ae (za ad ⟨d0,d1⟩ q);go_wp2
    go_round
    case rel=>exact⟨j+1,10*v+d,ad,bO.1,bO.2,rfl,by go_num,a3.symm⟩
    case measure=>exact aH
  .have G:j=n:=ad;have a3:=ae (show v=qy ((s.data.toList.drop k).take n) by
    rw[<-t.o,G,LQ (by simp;omega)];rfl)
   clear G;go_wp2;go_ret;exact⟨ret_int a3.o,rfl⟩
def rr(t:Tok):List Value:=[.int .i64 t.kind,.string (strOf t.text),.int .i64 t.num,.int .i64 t.pos]
theorem Et(l:List Tok):∀x∈l,(rr x).length=4:=λ_ _=>rfl
theorem lI(l:List Tok)(x:Tok):(l++[x]).flatMap rr=l.flatMap rr++rr x:=by
 rw[List.flatMap_append];simp
theorem pQ:cj prog 188 202 (.agg #[.int .i64 0,.string ⟨#[]⟩,.int .i64 0,.int .i64 0]) 4 40:=cj.mk' Tryz.underlying188 (by kernel_rfl) rfl ad
theorem fx.F8(h:fx w b o cap s)(O:Below w.heap.size w ab):fx ab b o cap s:=h.on (Fr.of O)
def kv(w:World)(r:List Tok×Int×Int)(e:Ending)(ab:World):Prop:=
 ∃A n c,e=.returned (.tuple #[.slice A n c,.int .i64 r.2.1,.int .i64 r.2.2])/\n<=c/\cp (EF rr) 4 ab ab.heap.size A n r.1/\Below w.heap.size w ab
theorem kv.bad{p q:Int}{r:List Tok×Int×Int}(ba:r=([],p,q))(O:Below w.heap.size w ab):kv w r (.returned (.tuple #[.slice none 0 0,.int .i64 p,.int .i64 q])) ab:=by
 subst ba;exact⟨none,0,0,rfl,Lk _,cp.bR _,O⟩
structure tX(w wr:World)(s:ByteArray)(k:Nat)(acc:List Tok)(out:Value):Prop where
 own:wr.ownsRow w.heap.size 202 4 out acc.length (acc.flatMap rr)
 jF:acc.length<=4000
 le:k<=s.size
 skip:aU false (s.data.toList.drop k)=s.data.toList.drop k
 FT:fN (s.size - k+1) s.size (s.data.toList.drop k) acc=dw s.data.toList
 below:Below w.heap.size w wr
theorem mG(s:ByteArray)(k:Nat):(s.data.toList.drop k).length=s.size - k:=by simp
theorem hk:∀(b:Bool) (l:List UInt8),∃n,aU b l=l.drop n/\n<=l.length
 | b,[]=>⟨0,by cases b<;>rfl,Lk _⟩
 | true,c::l=>by
  by_cases h:c=10
  .obtain⟨n,ac,au⟩:=hk false l;exact⟨n+1,by rw[aU,if_pos h,ac];rfl,by simp;omega⟩
  .obtain⟨n,ac,au⟩:=hk true l
   exact⟨n+1,by rw[aU,if_neg h,ac];rfl,by simp;omega⟩
 | false,c::l=>by
  by_cases h:pz c=true
  .obtain⟨n,ac,au⟩:=hk false l;exact⟨n+1,by rw[aU,if_pos h,ac];rfl,by simp;omega⟩
  .by_cases au:c=47/\l.head?=some 47
   .obtain⟨n,ac,aY⟩:=hk true l;exact⟨n+1,by rw[aU,if_neg h,if_pos au,ac];rfl,by simp;omega⟩
   .exact⟨0,by rw[aU,if_neg h,if_neg au];rfl,by simp⟩
theorem iu:∀(b:Bool) (l:List UInt8),aU false (aU b l)=aU b l
 | b,[]=>by cases b<;>rfl
 | true,c::l=>by
  rw[aU];split
  .exact iu false l
  .exact iu true l
 | false,c::l=>by
  by_cases h:pz c=true
  .rw[lu h];exact iu false l
  .by_cases au:c=47/\l.head?=some 47
   .have e:aU false (c::l)=aU true l:=by rw[aU,if_neg h,if_pos au]
    rw[e];exact iu true l
   .have e:aU false (c::l)=c::l:=by rw[aU,if_neg h,if_neg au]
    rw[e,e]
theorem m8(s:ByteArray)(m:Nat)(hm:m<=s.size):∃k,m<=k/\k<=s.size/\aU false (s.data.toList.drop m)=s.data.toList.drop k/\aU false (s.data.toList.drop k)=s.data.toList.drop k/\(s.size:Int) - (aU false (s.data.toList.drop m)).length=k:=by
 obtain⟨n,ac,au⟩:=hk false (s.data.toList.drop m);have hl:(s.data.toList.drop m).length=s.size - m:=by simp
 refine⟨m+n,ad,ad,?_,?_,?_⟩
 .rw[ac,List.drop_drop]
 .rw[<-List.drop_drop,<-ac];exact iu _ _
 .rw[ac,List.length_drop,hl];omega
theorem r5(f n:Nat)(l:List UInt8)(acc:List Tok):fN f n l acc=fN f n (aU false l) acc:=by
 cases f with
 | zero=>rfl
 | succ f=>unfold fN;rw[iu]
theorem ld:∀(f g n:Nat) (l:List UInt8) (acc:List Tok),l.length<f->l.length<g->fN f n l acc=fN g n l acc
 | 0,g,n,l,acc,h,_=>ad
 | f+1,0,n,l,acc,_,h=>ad
 | f+1,g+1,n,l,acc,J,a9=>by
  unfold fN;have hs:=jN false l
  cases ap:aU false l with
  | nil=>rfl
  | cons c r=>
   rw[ap] at hs;simp only[Lx] at hs;have e1:∀p:UInt8->Bool,p c=true->((c::r).dropWhile p).length<f/\((c::r).dropWhile p).length<g:=λp hp=>by
    have:((c::r).dropWhile p).length<=r.length:=by
     rw[List.dropWhile_cons,if_pos hp];have:=(List.dropWhile_sublist p (l:=r)).length_le;exact this
    omega
   have e2:∀k,k≠0->((c::r).drop k).length<f/\((c::r).drop k).length<g:=λk ap=>by
    simp only[List.length_drop,Lx];omega
   simp only[];by_cases hl:b1 c=true
   .simp only[hl,if_true];have z:cf c=true:=by simp[cf,hl]
    rw[ld f g n _ _ (e1 _ z).1 (e1 _ z).2]
   .simp only[hl,LS,if_false];by_cases hd:bF c=true
    .simp only[hd,if_true];rw[ld f g n _ _ (e1 _ hd).1 (e1 _ hd).2]
    .simp only[hd,LS,if_false];by_cases bv:e5 (c::r)=0
     .simp only[bv,if_true]
     .simp only[bv,if_false];rw[ld f g n _ _ (e2 _ bv).1 (e2 _ bv).2]
theorem tX.next{wr b:World}{m F:Nat}{out a:Value}{t:Tok}(h:tX w wr s k acc out)
  (aB:b.ownsRow w.heap.size 202 4 a (acc.length+1) (acc.flatMap rr++rr t)) (hn:acc.length≠4000) (L:k<m) (hm:m<=s.size)
  (he:fN (s.size - k+1) s.size (s.data.toList.drop k) acc=fN (s.size - k) s.size (s.data.toList.drop m) (acc++[t])) (O:Below w.heap.size w b)
  (cd:m<=F) (b0:F<=s.size) (cr:aU false (s.data.toList.drop m)=s.data.toList.drop F) (bN:aU false (s.data.toList.drop F)=s.data.toList.drop F):tX w b s F (acc++[t]) a:=by
 have J:=h.jF;refine⟨by rw[lI,Lm];exact aB,by simp;omega,b0,bN,?_,O⟩;rw[<-h.FT,he,r5 (s.size - k),cr];exact Aj
theorem wK(s:ByteArray)(hs:s.size<=262144)(ac:aU false (s.data.toList.drop 0)=s.data.toList.drop k):fN (s.size - k+1) s.size (s.data.toList.drop k) []=dw s.data.toList:=by
 have hl:s.data.toList.length=s.size:=by simp
 have g:aU false s.data.toList=s.data.toList.drop k:=by simpa using ac
 unfold dw;rw[hl,if_neg ad,r5 (s.size+1),g];exact Aj
theorem Eu(f n:Nat)(acc:List Tok):fN (f+1) n [] acc=(acc++[⟨5,[],0,(n:Int)⟩],(n:Int),0):=by simp[fN,aU]
theorem vm:s.data.toList.drop k=(s.data.toList.drop k).take n++s.data.toList.drop (k+n):=by
 rw[<-List.drop_drop,List.take_append_drop]
theorem r8(h:∀hl:k+n<s.size,p (s[k+n]'hl)=false):∀c,(s.data.toList.drop (k+n)).head?=some c->p c=false:=by
 intro c hc;by_cases hl:k+n<s.size
 .rw[da hl] at hc;simp at hc;subst hc;exact h hl
 .rw[LQ (by simp;omega)] at hc;cases hc
theorem tq(h:k<s.size):((s.size:Nat):Int) - ((s.data.toList.drop (k+1)).length+1)=(k:Int):=by rw[mG];omega
theorem y3(ap:k<s.size)(g:aU false (s.data.toList.drop k)=s.data.toList.drop k)(hl:b1 s[k]=true)(y:((s.data.toList.drop k).take n).all cf=true)
  (q:∀h:k+n<s.size,cf (s[k+n]'h)=false) :
  fN (f+1) s.size (s.data.toList.drop k) acc=if (!dI ((s.data.toList.drop k).take n) && decide (16<((s.data.toList.drop k).take n).length))=true then ([],(k:Int),3)
   else if acc.length=4000 then ([],(k:Int),3) else fN f s.size (s.data.toList.drop (k+n)) (acc++[⟨if dI ((s.data.toList.drop k).take n) then 3 else 1,(s.data.toList.drop k).take n,0,(k:Int)⟩]):=by
 have o:=g9 y (r8 q);rw[<-vm] at o;rw[fN,g];rw[da ap] at o ⊢;simp only[hl,if_true,o.1,o.2,tq ap]
theorem Ev(ap:k<s.size)(g:aU false (s.data.toList.drop k)=s.data.toList.drop k)(hl:b1 s[k]=false)(hd:bF s[k]=true)(y:((s.data.toList.drop k).take n).all bF=true)
  (q:∀h:k+n<s.size,bF (s[k+n]'h)=false) :
  fN (f+1) s.size (s.data.toList.drop k) acc=if qy ((s.data.toList.drop k).take n)<0 then ([],(k:Int),2)
   else if acc.length=4000 then ([],(k:Int),3) else fN f s.size (s.data.toList.drop (k+n)) (acc++[⟨2,(s.data.toList.drop k).take n,qy ((s.data.toList.drop k).take n),(k:Int)⟩]):=by
 have o:=g9 y (r8 q);rw[<-vm] at o;rw[fN,g];rw[da ap] at o ⊢;simp only[hl,hd,LS,if_false,if_true,o.1,o.2,tq ap]
theorem y2(ap:k<s.size)(g:aU false (s.data.toList.drop k)=s.data.toList.drop k)(hl:b1 s[k]=false)(hd:bF s[k]=false):
  fN (f+1) s.size (s.data.toList.drop k) acc=if e5 (s.data.toList.drop k)=0 then ([],(k:Int),1)
   else if acc.length=4000 then ([],(k:Int),3) else fN f s.size (s.data.toList.drop (k+e5 (s.data.toList.drop k))) (acc++[⟨4,(s.data.toList.drop k).take (e5 (s.data.toList.drop k)),0,(k:Int)⟩]):=by
 have au:s.data.toList.drop (k+e5 (s.data.toList.drop k))=(s.data.toList.drop k).drop (e5 (s.data.toList.drop k)):=by rw[List.drop_drop]
 rw[au,fN,g];rw[da ap];simp only[hl,hd,LS,if_false,tq ap]
theorem EZ(l:List UInt8)(h:l≠[]):e5 l<=l.length:=by
 unfold e5
 have:1<=l.length:=by cases l with
  | nil=>exact absurd rfl h
  | cons=>simp
 split
 .rename_i ah;simp only[Lw,LR] at ah;exact ah.2
 .split<;>omega
theorem pO(hl:k+n<s.size)(h:((s.data.toList.drop k).take n).all p=true)(hp:p (s[k+n]'hl)=true):((s.data.toList.drop k).take (n+1)).all p=true:=by
 have a9:(s.data.toList.drop k)[n]?=some (s[k+n]'hl):=by rw[List.getElem?_drop];exact byte_at hl
 rw[a1 a9,List.all_append,h];simp[hp]
theorem g1(hc:s.size<=cap)(hn:0<n)(ap:k+n<=s.size)(W:World):
  (Instr.slice 143 (.slice (some ⟨b,o,none⟩) s.size cap) (some (.int .i64 (k:Int))) (some (.int .i64 ((k:Int)+(n:Int)))) none).run prog W=.ok (.slice (some ⟨b,o+k,none⟩) n (cap - k)) W:=nW hc hn ap W
theorem rE(s:ByteArray)(k n:Nat):strOf ((s.data.toList.drop k).take n)=s.extract k (k+n):=by rw[<-gm,xh]
structure ua(wr X:World)(kind num:Int)(k:Nat):Prop where
 below:Below wr.heap.size wr X
 blk:aq X wr.heap.size 202 #[.int .i64 kind,.string ⟨#[]⟩,.int .i64 num,.int .i64 k]
 lt:wr.heap.size<X.heap.size
theorem yc(s:ByteArray)(b o cap:Nat)(w:World)(h:fx w b o cap s)(hs:s.size<=262144) :
  Calls prog 117 #[.slice (some ⟨b,o,none⟩) s.size cap] w (kv w (dw s.data.toList)):=by
 have H:=ae h;have M:=h.fit;clear h;go_enter func117,ntmps117;go_wp2_with(fail);refine(show Calls prog 140 #[.slice (some ⟨b,o,none⟩) s.size cap,.int .i64 0] _ _ from kS s b o cap 0 _ H.o (LJ _)).mono ?_;rintro e ab ⟨rfl,rfl⟩;obtain⟨c8,_,br,ac,au,aY⟩:=m8 s 0 (LJ _);rw[aY];have a4:=ae (show tX w w s c8 [] (.slice none 0 0) from ⟨⟨by simp,.inl ⟨rfl,rfl⟩⟩,by simp,br,au,wK s hs ac,Below.refl _ _⟩);clear ac au aY;go_wp2_with(fail);go_loopw [5,6] (λout i wr=>∃(k:Nat) (acc:List Tok),i=.int .i64 k/\tX w wr s k acc out) (λ_ i _=>s.size+1 - (intOf i).toNat)
 case atStart=>exact⟨c8,[],rfl,a4.o⟩
 case round=>
  obtain⟨k,acc,rfl,bU⟩:=hrel;have b8:=ae bU;clear a4 br;obtain⟨A,c,ay,b9,_,_,_⟩:=b5 bU.own;subst ay;have L:=bU.jF;have hle:=bU.le;clear bU;by_cases al:k<s.size
  case neg=>
   have b7:k=s.size:=ad;have q:((k:Int) == (s.size:Int))=true:=by simp;omega
   have a3:=ae (show dw s.data.toList=(acc++[⟨5,[],0,(s.size:Int)⟩],(s.size:Int),0) by
    rw[<-b8.FT,b7,LQ (by simp)];exact Eu _ _ _)
   subst b7;go_wp2_with((at_builtin;refine dn wr pQ rfl (.tmp 21) (.tmp 24) rfl w.heap.size _ _ _ #[.int .i64 5,.string ⟨#[]⟩,.int .i64 0,.int .i64 s.size] rfl b8.own rfl rfl (by simp[Value.oneCell']) ad ad b8.below.size ?_;intro v2 aU az bH E;obtain⟨A2,c2,rfl,P,_⟩:=b5 az))
   go_ret3
   rw[a3.o];refine⟨A2,acc.length+1,c2,rfl,P,jM (l:=acc++[⟨5,[],0,(s.size:Int)⟩]) (by rw[lI];exact az) (Et _) (by simp),?_⟩;exact fR b8.below b8.own bH (Lk _) b8.below.size
  have q:((k:Int) == (s.size:Int))=false:=by simp;omega
  have hc:=H.F8 b8.below;have aD:=hc.byte al;have aE:=hc.lt;have S:∀(j:Nat) (bi:j<s.size) (cs:Array Value) (t:TypeId),(wr.alloc (.cells cs t)).cell? ⟨b,o+j,none⟩=some (.int .u8 (s[j].toNat:Int)):=λj bi cs t=>(hc.on (LW.alloc _)).byte bi;obtain⟨bV,ap⟩:=aJ hc S;have b2:=S k al #[.int .i64 0,.string ⟨#[]⟩,.int .i64 0,.int .i64 k] 202;clear hc S;go_wp2_with(fail);refine(ma s[k] _).mono ?_;rintro e ab ⟨rfl,rfl⟩;by_cases hl:b1 s[k]=true
  .rw[hl];have ax:=ae hl;clear hl b2;go_wp2_with(fail)
   go_loop [8] (λe=>∃n:Nat,k+n<=s.size/\e=.int .i64 ((k:Int)+(n:Int))/\((s.data.toList.drop k).take n).all cf=true) (λe=>s.size+1 - (intOf e).toNat)
   case atStart=>exact⟨0,ad,by simp,by simp⟩
   case round=>
    obtain⟨n,hn,rfl,y⟩:=hrel;have HA:=ae y;clear y;have t1:((k:Int)+(n:Int)).toNat=k+n:=ad;have a1:(0:Int)<=(k:Int)+(n:Int):=ad;by_cases cP:k+n<s.size
    case' pos=>
     have cG:=ap.o (k+n) cP #[.int .i64 0,.string ⟨#[]⟩,.int .i64 0,.int .i64 k] 202;have bs:(k:Int)+(n:Int)<(s.size:Int):=ad;go_wp2_with(fail);refine(ma s[k+n] _).mono ?_;rintro e ab ⟨rfl,rfl⟩;by_cases bc:b1 s[k+n]=true
     .rw[bc];have cn:=ae (pO (p:=cf) cP HA.o (by simp[cf,bc]));clear bc;go_wp2
      go_round
      case rel=>exact⟨n+1,ad,by simp;omega,cn.o⟩
      case measure=>exact aH
     have aj:b1 s[k+n]=false:=by simpa using bc
     rw[aj];have J:=ae aj;clear bc aj;go_wp2_with(fail);refine(k2 s[k+n] _).mono ?_;rintro e ab ⟨rfl,rfl⟩;by_cases bn:bF s[k+n]=true
     .rw[bn];have cn:=ae (pO (p:=cf) cP HA.o (by simp[cf,bn]));clear bn;go_wp2
      go_round
      case rel=>exact⟨n+1,ad,by simp;omega,cn.o⟩
      case measure=>exact aH
     have D:bF s[k+n]=false:=by simpa using bn
     rw[D];have z:cf s[k+n]=false:=by simp[cf,J.o,D]
     have ai:=ae (show 0<n from by
      rcases Nat.eq_zero_or_pos n with h0|h0
      .subst h0;have:=J.o;simp only[Lu] at this;rw[ax.o] at this;cases this
      .exact h0)
     have O:=ae (show ∀h:k+n<s.size,cf (s[k+n]'h)=false from λ_=>z);clear bn D z cG
    case' neg=>
     have bs:decide ((k:Int)+(n:Int)<(s.size:Int))=false:=by simp;omega
     have ai:=ae (show 0<n by omega);have O:=ae (show ∀h:k+n<s.size,cf (s[k+n]'h)=false from λh=>absurd h cP)
    all_goals
     have aM:0<n:=ai.o;have K:=ae (b8.FT.symm.trans (y3 (f:=s.size - k) (acc:=acc) al b8.skip ax.o HA.o O.o));have s2:=λW=>g1 (b:=b) (o:=o) M aM hn W;have c2:=λ(cs:Array Value) (t:TypeId)=>kb (bV.on (LW.alloc (.cells cs t))) (k:=k) (n:=n) (cap - k) hn;go_wp2_with(fail);refine(m6 (s.extract k (k+n)) _).mono ?_;rintro e aU ⟨rfl,bj⟩;clear s2 c2;have d:ua wr aU 1 0 k:=by
      have e1:Ext wr aU:=(LW.alloc _).trans bj;have ar:=(aq.new wr 202 #[.int .i64 1,.string ⟨#[]⟩,.int .i64 0,.int .i64 k]).aj bj;exact⟨Fr.ext e1,ar,ar.lt⟩
     clear bj;have Q:=ae d;obtain⟨Z,am,an⟩:=d.blk.two;clear d;have aA:ir (s.extract k (k+n))=dI ((s.data.toList.drop k).take n):=by unfold ir;rw[gm]
     rw[aA];clear aA;have hlen:((s.data.toList.drop k).take n).length=n:=by simp;omega
     by_cases ba:dI ((s.data.toList.drop k).take n)=true
     .rw[ba] at K ⊢;have bo:=ae (K.o);clear ba hlen K;simp only[Bool.not_true,Bool.false_and,LS,if_false,if_true] at bo;go_upto_region 28 with(fail);generalize hX:World.setCell aU _ _=X;have r:ua wr X 3 0 k:=by
       exact zS
      clear hX Z am an;have aa:=ae r;obtain⟨bx,a5,aT⟩:=r.blk.two;clear r;by_cases bR:acc.length=4000
      .have dd:((acc.length:Int) == 4000)=true:=by simp;omega
       have U:(acc.length == 4000)=true:=by simp;omega
       have a3:=ae (bo.trans (if_pos bR));clear bR;go_wp2
       go_ret3
       exact sF
      have dd:((acc.length:Int) == 4000)=false:=by simp;omega
      have U:(acc.length == 4000)=false:=by simp;omega
      have a3:=ae (bo.trans (if_neg bR));have R:=ae bR;clear bR;have G:fx X b o cap s:=bV.F8 aa.below;have T:=λW=>g1 (b:=b) (o:=o) M aM hn W;have c3:=kb G (k:=k) (n:=n) (cap - k) hn;have ao:=ae G;clear G;go_upto_region 31 with(fail);generalize cu:World.setCell X _ _=Y;have C:Below wr.heap.size wr Y:=cu▸aa.below.setCell (p:=⟨wr.heap.size,1,none⟩) (Lk _) _;have ah:aq Y wr.heap.size 202 #[.int .i64 3,.string (s.extract k (k+n)),.int .i64 0,.int .i64 k]:=cu▸aa.blk.aM 1 _;obtain⟨bA,V,af⟩:=ah.two;have x:=ae C;clear cu C ah bx a5 aT T c3;go_wp2_with((at_builtin;refine dn Y pQ rfl (.tmp 119) (.tmp 121) rfl w.heap.size _ _ _ #[.int .i64 3,.string (s.extract k (k+n)),.int .i64 0,.int .i64 k] rfl (b3 b8.own x.o) rfl rfl (by simp[Value.oneCell']) ad ad (LD b8.below.size x.size) ?_;intro v2 c7 az bH E;obtain⟨A2,c2,rfl,P,_⟩:=b5 az));have bB:Below w.heap.size w c7:=fR (b8.below.trans (x.mono b8.below.size)) (b3 b8.own x.o) bH (Lk _) (LD b8.below.size x.size);have N:=ag bB az;clear bB az bH E bA V af;have g:=kS s b o cap (k+n) c7 (H.F8 N.1) hn;rw[Int.natCast_add] at g;refine g.mono ?_;clear g;rintro e ab ⟨rfl,rfl⟩;obtain⟨F,cd,b0,cr,bN,cQ⟩:=m8 s (k+n) hn;rw[cQ];have bq:=ag cr bN;clear cr bN cQ;go_wp2;go_roundw
      case rel=>
       refine⟨F,acc++[⟨3,(s.data.toList.drop k).take n,0,(k:Int)⟩],rfl,b8.next (m:=k+n) ?_ R.o ad hn (b8.FT.trans a3.o) N.1 cd b0 bq.1 bq.2⟩;exact sK
      case measure=>exact aH
     have I:dI ((s.data.toList.drop k).take n)=false:=by simpa using ba
     rw[I] at K ⊢;by_cases ak:16<n
     .have bo:=ae (K.trans (if_pos (by rw[hlen];simp[ak])));clear ba I hlen;go_wp2
      go_ret3
      exact kv.bad bo.o (b8.below.trans (Q.below.mono b8.below.size))
     have bo:=ae (K.trans (if_neg (by rw[hlen];simp[ak])));simp only[LS,if_false] at bo;clear ba I hlen K;go_upto_region 28 with(fail);have X:World:=aU;clear X;generalize aU=X at *;have r:=Q.o;clear Z am an;have aa:=ae r;obtain⟨bx,a5,aT⟩:=r.blk.two;clear r;by_cases bR:acc.length=4000
     .have dd:((acc.length:Int) == 4000)=true:=by simp;omega
      have U:(acc.length == 4000)=true:=by simp;omega
      have a3:=ae (bo.trans (if_pos bR));clear bR;go_wp2
      go_ret3
      exact sF
     have dd:((acc.length:Int) == 4000)=false:=by simp;omega
     have U:(acc.length == 4000)=false:=by simp;omega
     have a3:=ae (bo.trans (if_neg bR));have R:=ae bR;clear bR;have G:fx X b o cap s:=bV.F8 aa.below;have T:=λW=>g1 (b:=b) (o:=o) M aM hn W;have c3:=kb G (k:=k) (n:=n) (cap - k) hn;have ao:=ae G;clear G;go_upto_region 31 with(fail);generalize cu:World.setCell X _ _=Y;have C:Below wr.heap.size wr Y:=cu▸aa.below.setCell (p:=⟨wr.heap.size,1,none⟩) (Lk _) _;have ah:aq Y wr.heap.size 202 #[.int .i64 1,.string (s.extract k (k+n)),.int .i64 0,.int .i64 k]:=cu▸aa.blk.aM 1 _;obtain⟨bA,V,af⟩:=ah.two;have x:=ae C;clear cu C ah bx a5 aT T c3;go_wp2_with((at_builtin;refine dn Y pQ rfl (.tmp 119) (.tmp 121) rfl w.heap.size _ _ _ #[.int .i64 1,.string (s.extract k (k+n)),.int .i64 0,.int .i64 k] rfl (b3 b8.own x.o) rfl rfl (by simp[Value.oneCell']) ad ad (LD b8.below.size x.size) ?_;intro v2 c7 az bH E;obtain⟨A2,c2,rfl,P,_⟩:=b5 az));have bB:Below w.heap.size w c7:=fR (b8.below.trans (x.mono b8.below.size)) (b3 b8.own x.o) bH (Lk _) (LD b8.below.size x.size);have N:=ag bB az;clear bB az bH E bA V af;have g:=kS s b o cap (k+n) c7 (H.F8 N.1) hn;rw[Int.natCast_add] at g;refine g.mono ?_;clear g;rintro e ab ⟨rfl,rfl⟩;obtain⟨F,cd,b0,cr,bN,cQ⟩:=m8 s (k+n) hn;rw[cQ];have bq:=ag cr bN;clear cr bN cQ;go_wp2;go_roundw
     case rel=>
      refine⟨F,acc++[⟨1,(s.data.toList.drop k).take n,0,(k:Int)⟩],rfl,b8.next (m:=k+n) ?_ R.o ad hn (b8.FT.trans a3.o) N.1 cd b0 bq.1 bq.2⟩;exact sK
     case measure=>exact aH
  have aB:b1 s[k]=false:=by simpa using hl
  rw[aB];have aw:=ae aB;clear hl aB;go_wp2_with(fail);refine(k2 s[k] _).mono ?_;rintro e ab ⟨rfl,rfl⟩;by_cases hd:bF s[k]=true
  .rw[hd];have av:=ae hd;clear hd b2;go_wp2_with(fail)
   go_loop [8] (λe=>∃n:Nat,k+n<=s.size/\e=.int .i64 ((k:Int)+(n:Int))/\((s.data.toList.drop k).take n).all bF=true) (λe=>s.size+1 - (intOf e).toNat)
   case atStart=>exact⟨0,ad,by simp,by simp⟩
   case round=>
    obtain⟨n,hn,rfl,y⟩:=hrel;have HA:=ae y;clear y;have t1:((k:Int)+(n:Int)).toNat=k+n:=ad;have a1:(0:Int)<=(k:Int)+(n:Int):=ad;by_cases cP:k+n<s.size
    case' pos=>
     have cG:=ap.o (k+n) cP #[.int .i64 0,.string ⟨#[]⟩,.int .i64 0,.int .i64 k] 202;have bs:(k:Int)+(n:Int)<(s.size:Int):=ad;go_wp2_with(fail);refine(k2 s[k+n] _).mono ?_;rintro e ab ⟨rfl,rfl⟩;by_cases bn:bF s[k+n]=true
     .rw[bn];have cn:=ae (pO (p:=bF) cP HA.o bn);clear bn;go_wp2
      go_round
      case rel=>exact⟨n+1,ad,by simp;omega,cn.o⟩
      case measure=>exact aH
     have D:bF s[k+n]=false:=by simpa using bn
     rw[D];have ai:=ae (show 0<n from by
      rcases Nat.eq_zero_or_pos n with h0|h0
      .subst h0;simp only[Lu] at D;rw[av.o] at D;cases D
      .exact h0)
     have O:=ae (show ∀h:k+n<s.size,bF (s[k+n]'h)=false from λ_=>D);clear bn D cG
    case' neg=>
     have bs:decide ((k:Int)+(n:Int)<(s.size:Int))=false:=by simp;omega
     have ai:=ae (show 0<n by omega);have O:=ae (show ∀h:k+n<s.size,bF (s[k+n]'h)=false from λh=>absurd h cP)
    all_goals
     have aM:0<n:=ai.o;have K:=ae (b8.FT.symm.trans (Ev (f:=s.size - k) (acc:=acc) al b8.skip aw.o av.o HA.o O.o));have s2:=λW=>g1 (b:=b) (o:=o) M aM hn W;go_wp2_with(fail);refine(wW s b o cap k n (cap - k) _ (bV.on (LW.alloc _)) hn HA.o).mono ?_;rintro e ab ⟨rfl,rfl⟩;clear s2;generalize qy ((s.data.toList.drop k).take n)=v at *;by_cases bG:v<0
     .have bo:=ae (K.trans (if_pos bG));have aF:decide (v<0)=true:=by simpa using bG
      clear K;go_wp2
      go_ret3
      exact kv.bad bo.o (b8.below.trans (((Below.refl _ _).alloc (Lk _) _).mono b8.below.size))
     have bo:=ae (K.trans (if_neg bG));have aF:decide (v<0)=false:=by simpa using bG
     clear K bG;go_upto_region 28 with(fail);generalize hX:World.alloc wr _=X;have r:ua wr X 2 v k:=by
      rw[<-hX];exact⟨(Below.refl _ _).alloc (Lk _) _,LX,by simp⟩
     clear hX;have aa:=ae r;obtain⟨bx,a5,aT⟩:=r.blk.two;clear r;by_cases bR:acc.length=4000
     .have dd:((acc.length:Int) == 4000)=true:=by simp;omega
      have U:(acc.length == 4000)=true:=by simp;omega
      have a3:=ae (bo.trans (if_pos bR));clear bR;go_wp2
      go_ret3
      exact sF
     have dd:((acc.length:Int) == 4000)=false:=by simp;omega
     have U:(acc.length == 4000)=false:=by simp;omega
     have a3:=ae (bo.trans (if_neg bR));have R:=ae bR;clear bR;have G:fx X b o cap s:=bV.F8 aa.below;have T:=λW=>g1 (b:=b) (o:=o) M aM hn W;have c3:=kb G (k:=k) (n:=n) (cap - k) hn;have ao:=ae G;clear G;go_upto_region 31 with(fail);generalize cu:World.setCell X _ _=Y;have C:Below wr.heap.size wr Y:=cu▸aa.below.setCell (p:=⟨wr.heap.size,1,none⟩) (Lk _) _;have ah:aq Y wr.heap.size 202 #[.int .i64 2,.string (s.extract k (k+n)),.int .i64 v,.int .i64 k]:=cu▸aa.blk.aM 1 _;obtain⟨bA,V,af⟩:=ah.two;have x:=ae C;clear cu C ah bx a5 aT T c3;go_wp2_with((at_builtin;refine dn Y pQ rfl (.tmp 119) (.tmp 121) rfl w.heap.size _ _ _ #[.int .i64 2,.string (s.extract k (k+n)),.int .i64 v,.int .i64 k] rfl (b3 b8.own x.o) rfl rfl (by simp[Value.oneCell']) ad ad (LD b8.below.size x.size) ?_;intro v2 c7 az bH E;obtain⟨A2,c2,rfl,P,_⟩:=b5 az));have bB:Below w.heap.size w c7:=fR (b8.below.trans (x.mono b8.below.size)) (b3 b8.own x.o) bH (Lk _) (LD b8.below.size x.size);have N:=ag bB az;clear bB az bH E bA V af;have g:=kS s b o cap (k+n) c7 (H.F8 N.1) hn;rw[Int.natCast_add] at g;refine g.mono ?_;clear g;rintro e ab ⟨rfl,rfl⟩;obtain⟨F,cd,b0,cr,bN,cQ⟩:=m8 s (k+n) hn;rw[cQ];have bq:=ag cr bN;clear cr bN cQ;go_wp2;go_roundw
     case rel=>
      refine⟨F,acc++[⟨2,(s.data.toList.drop k).take n,v,(k:Int)⟩],rfl,b8.next (m:=k+n) ?_ R.o ad hn (b8.FT.trans a3.o) N.1 cd b0 bq.1 bq.2⟩;exact sK
     case measure=>exact aH
  have u:bF s[k]=false:=by simpa using hd
  rw[u];have aC:=ae u;clear hd u b2;go_wp2_with(fail);refine(E0 s b o cap k _ (bV.on (LW.alloc _)) al).mono ?_;rintro e aU ⟨rfl,bj⟩;have d:ua wr aU 0 0 k:=by
   have e1:Ext wr aU:=(LW.alloc _).trans bj;have ar:=(aq.new wr 202 #[.int .i64 0,.string ⟨#[]⟩,.int .i64 0,.int .i64 k]).aj bj;exact⟨Fr.ext e1,ar,ar.lt⟩
  clear bj;have Q:=ae d;obtain⟨Z,am,an⟩:=d.blk.two;clear d;have K:=ae (b8.FT.symm.trans (y2 (f:=s.size - k) (acc:=acc) al b8.skip aw.o aC.o));have ca:=EZ (s.data.toList.drop k) (by rw[da al];simp);rw[mG] at ca;generalize e5 (s.data.toList.drop k)=n at *;have hn:k+n<=s.size:=ad;by_cases bv:n=0
  .have bJ:(((k:Int)+(n:Int)) == (k:Int))=true:=by simp;omega
   have bo:=ae (K.trans (if_pos bv));have cx:(n:Int)=0:=ad;subst bv;clear K bJ cx;go_wp2
   go_ret3
   exact kv.bad bo.o (b8.below.trans ((Q.below.setCell (p:=⟨wr.heap.size,0,none⟩) (Lk _) _).mono b8.below.size))
  have bJ:(((k:Int)+(n:Int)) == (k:Int))=false:=by simp;omega
  have bo:=ae (K.trans (if_neg bv));have aM:0<n:=ad;clear K bv;go_upto_region 28 with(fail);generalize hX:World.setCell aU _ _=X;have r:ua wr X 4 0 k:=by
   exact zS
  clear hX Z am an;have aa:=ae r;obtain⟨bx,a5,aT⟩:=r.blk.two;clear r;by_cases bR:acc.length=4000
  .have dd:((acc.length:Int) == 4000)=true:=by simp;omega
   have U:(acc.length == 4000)=true:=by simp;omega
   have a3:=ae (bo.trans (if_pos bR));clear bR;go_wp2
   go_ret3
   exact sF
  have dd:((acc.length:Int) == 4000)=false:=by simp;omega
  have U:(acc.length == 4000)=false:=by simp;omega
  have a3:=ae (bo.trans (if_neg bR));have R:=ae bR;clear bR;have G:fx X b o cap s:=bV.F8 aa.below;have T:=λW=>g1 (b:=b) (o:=o) M aM hn W;have c3:=kb G (k:=k) (n:=n) (cap - k) hn;have ao:=ae G;clear G;go_upto_region 31 with(fail);generalize cu:World.setCell X _ _=Y;have C:Below wr.heap.size wr Y:=cu▸aa.below.setCell (p:=⟨wr.heap.size,1,none⟩) (Lk _) _;have ah:aq Y wr.heap.size 202 #[.int .i64 4,.string (s.extract k (k+n)),.int .i64 0,.int .i64 k]:=cu▸aa.blk.aM 1 _;obtain⟨bA,V,af⟩:=ah.two;have x:=ae C;clear cu C ah bx a5 aT T c3;go_wp2_with((at_builtin;refine dn Y pQ rfl (.tmp 119) (.tmp 121) rfl w.heap.size _ _ _ #[.int .i64 4,.string (s.extract k (k+n)),.int .i64 0,.int .i64 k] rfl (b3 b8.own x.o) rfl rfl (by simp[Value.oneCell']) ad ad (LD b8.below.size x.size) ?_;intro v2 c7 az bH E;obtain⟨A2,c2,rfl,P,_⟩:=b5 az));have bB:Below w.heap.size w c7:=fR (b8.below.trans (x.mono b8.below.size)) (b3 b8.own x.o) bH (Lk _) (LD b8.below.size x.size);have N:=ag bB az;clear bB az bH E bA V af;have g:=kS s b o cap (k+n) c7 (H.F8 N.1) hn;rw[Int.natCast_add] at g;refine g.mono ?_;clear g;rintro e ab ⟨rfl,rfl⟩;obtain⟨F,cd,b0,cr,bN,cQ⟩:=m8 s (k+n) hn;rw[cQ];have bq:=ag cr bN;clear cr bN cQ;go_wp2;go_roundw
  case rel=>
   refine⟨F,acc++[⟨4,(s.data.toList.drop k).take n,0,(k:Int)⟩],rfl,b8.next (m:=k+n) ?_ R.o ad hn (b8.FT.trans a3.o) N.1 cd b0 bq.1 bq.2⟩;exact sK
  case measure=>exact aH
end Go.Proofs.YtkhnkojkplbioaaGreat
