/- Part 10 of the proof. No condition of its own. -/
import Derived.Test.YtglbpimocmhojaaGreatQ06
namespace Go.Proofs.YtglbpimocmhojaaGreat
open Go.RowKit Go.Proofs.Tryz
set_option maxRecDepth 1000000
set_option maxHeartbeats 25600000
set_option linter.unusedVariables false
variable{s:ByteArray}{d:Int}{acc:List Tok}{b cap f k n o:Nat}{p:UInt8->Bool}{ab w:World}
theorem tU{x:UInt8}(h:(x.toNat:Int)=d+48)(v:Int)(l:List UInt8):iH v (x::l)=if (9223372036854775807 - d) / 10<v then -1 else iH (10*v+d) l:=by
 simp only[iH];rw[h,show d+48 - 48=d by omega]
theorem yt{v:Int}(h:v<=(9223372036854775807 - d) / 10)(hd:0<=d/\d<=9)(bI:0<=v):0<=10*v+d/\10*v+d<=9223372036854775807:=ad
theorem v9(s:ByteArray)(b o cap k n c:Nat)(w:World)(h:ft w b o cap s)(ap:k+n<=s.size)(hd:((s.data.toList.drop k).take n).all bB=true) :
  Calls prog 130 #[.slice (some ⟨b,o+k,none⟩) n c] w λe ab=>e=.returned (.int .i64 (pZ ((s.data.toList.drop k).take n)))/\w=ab:=by
 have H:=ae h;have bZ:=h.small;have cw:=ae hd;clear h hd;go_enter func130,ntmps130;go_wp2
 go_loop [3,4] (λa i=>∃(j:Nat) (v:Int),j<=n/\0<=v/\v<=9223372036854775807/\a=.int .i64 v/\i=.int .i64 j/\iH v (((s.data.toList.drop k).take n).drop j)=pZ ((s.data.toList.drop k).take n)) (λ_ i=>n - (intOf i).toNat)
 case atStart=>exact⟨0,0,KZ _,ad,ad,rfl,rfl,rfl⟩
 case round=>
  obtain⟨j,v,bi,r,eh,rfl,rfl,g⟩:=hrel;have t:=ae g;clear g;by_cases ak:j<n
  .have hc:=H.byte (k:=k+j) ad;rw[<-Nat.add_assoc] at hc;have f:((s.data.toList.drop k).take n)[j]?=some s[k+j]:=by
    rw[List.getElem?_take_of_lt ak,List.getElem?_drop];exact byte_at ad
   have m:bB s[k+j]=true:=List.all_eq_true.1 cw.o _ (KG f);have q:48<=s[k+j].toNat/\s[k+j].toNat<=57:=by simpa[bB] using m
   have ba:((s.data.toList.drop k).take n).drop j=s[k+j]::((s.data.toList.drop k).take n).drop (j+1):=by
    have hl:=(List.getElem?_eq_some_iff.1 f)
    rw[List.drop_eq_getElem_cons hl.1,hl.2]
   have aQ:=ae (t.symm.trans (congrArg (iH v) ba));clear f m ba;generalize s[k+j]=x at *;obtain⟨d,l⟩:∃d:Int,(x.toNat:Int)=d+48:=⟨(x.toNat:Int) - 48,ad⟩
   rw[l] at hc;have Q:=ae l;have d0:0<=d:=ad;have d1:d<=9:=ad;clear l q;by_cases b4:(9223372036854775807 - d) / 10<v
   .have aW:=ae (aQ.trans ((tU Q.o v _).trans (if_pos b4)));go_wp2;go_ret;exact⟨ret_int aW.symm,rfl⟩
   .have aW:=ae (aQ.trans ((tU Q.o v _).trans (if_neg b4)));have b1:=ae (yt ad ⟨d0,d1⟩ r);go_wp2
    go_round
    case rel=>exact⟨j+1,10*v+d,ad,b1.1,b1.2,rfl,by go_num,aW.symm⟩
    case measure=>exact aG
  .have G:j=n:=ad;have aW:=ae (show v=pZ ((s.data.toList.drop k).take n) by
    rw[<-t.o,G,Lh (by simp;omega)];rfl)
   clear G;go_wp2;go_ret;exact⟨ret_int aW.o,rfl⟩
def qR(t:Tok):List Value:=[.int .i64 t.kind,.string (strOf t.text),.int .i64 t.num,.int .i64 t.pos]
theorem DH(l:List Tok):∀x∈l,(qR x).length=4:=λ_ _=>rfl
theorem lp(l:List Tok)(x:Tok):(l++[x]).flatMap qR=l.flatMap qR++qR x:=by
 rw[List.flatMap_append];simp
theorem pq:ch prog 180 205 (.agg #[.int .i64 0,.string ⟨#[]⟩,.int .i64 0,.int .i64 0]) 4 40:=ch.mk' Tryz.underlying180 (by kernel_rfl) rfl ad
theorem ft.Fh(h:ft w b o cap s)(O:Below w.heap.size w ab):ft ab b o cap s:=h.on (Fr.of O)
def ko(w:World)(r:List Tok×Int×Int)(e:Ending)(ab:World):Prop:=
 ∃A n c,e=.returned (.tuple #[.slice A n c,.int .i64 r.2.1,.int .i64 r.2.2])/\n<=c/\cx (EF qR) 4 ab ab.heap.size A n r.1/\Below w.heap.size w ab
theorem ko.bad{p q:Int}{r:List Tok×Int×Int}(a5:r=([],p,q))(O:Below w.heap.size w ab):ko w r (.returned (.tuple #[.slice none 0 0,.int .i64 p,.int .i64 q])) ab:=by
 subst a5;exact⟨none,0,0,rfl,KD _,cx.bN _,O⟩
structure tj(w wr:World)(s:ByteArray)(k:Nat)(acc:List Tok)(out:Value):Prop where
 own:wr.ownsRow w.heap.size 205 4 out acc.length (acc.flatMap qR)
 jy:acc.length<=4000
 le:k<=s.size
 skip:aT false (s.data.toList.drop k)=s.data.toList.drop k
 E3:fK (s.size - k+1) s.size (s.data.toList.drop k) acc=dt s.data.toList
 below:Below w.heap.size w wr
theorem mq(s:ByteArray)(k:Nat):(s.data.toList.drop k).length=s.size - k:=by simp
theorem hf:∀(b:Bool) (l:List UInt8),∃n,aT b l=l.drop n/\n<=l.length
 | b,[]=>⟨0,by cases b<;>rfl,KD _⟩
 | true,c::l=>by
  by_cases h:c=10
  .obtain⟨n,ac,au⟩:=hf false l;exact⟨n+1,by rw[aT,if_pos h,ac];rfl,by simp;omega⟩
  .obtain⟨n,ac,au⟩:=hf true l
   exact⟨n+1,by rw[aT,if_neg h,ac];rfl,by simp;omega⟩
 | false,c::l=>by
  by_cases h:oT c=true
  .obtain⟨n,ac,au⟩:=hf false l;exact⟨n+1,by rw[aT,if_pos h,ac];rfl,by simp;omega⟩
  .by_cases au:c=47/\l.head?=some 47
   .obtain⟨n,ac,aU⟩:=hf true l;exact⟨n+1,by rw[aT,if_neg h,if_pos au,ac];rfl,by simp;omega⟩
   .exact⟨0,by rw[aT,if_neg h,if_neg au];rfl,by simp⟩
theorem ih:∀(b:Bool) (l:List UInt8),aT false (aT b l)=aT b l
 | b,[]=>by cases b<;>rfl
 | true,c::l=>by
  rw[aT];split
  .exact ih false l
  .exact ih true l
 | false,c::l=>by
  by_cases h:oT c=true
  .rw[k6 h];exact ih false l
  .by_cases au:c=47/\l.head?=some 47
   .have e:aT false (c::l)=aT true l:=by rw[aT,if_neg h,if_pos au]
    rw[e];exact ih true l
   .have e:aT false (c::l)=c::l:=by rw[aT,if_neg h,if_neg au]
    rw[e,e]
theorem mR(s:ByteArray)(m:Nat)(hm:m<=s.size):∃k,m<=k/\k<=s.size/\aT false (s.data.toList.drop m)=s.data.toList.drop k/\aT false (s.data.toList.drop k)=s.data.toList.drop k/\(s.size:Int) - (aT false (s.data.toList.drop m)).length=k:=by
 obtain⟨n,ac,au⟩:=hf false (s.data.toList.drop m);have hl:(s.data.toList.drop m).length=s.size - m:=by simp
 refine⟨m+n,ad,ad,?_,?_,?_⟩
 .rw[ac,List.drop_drop]
 .rw[<-List.drop_drop,<-ac];exact ih _ _
 .rw[ac,List.length_drop,hl];omega
theorem rA(f n:Nat)(l:List UInt8)(acc:List Tok):fK f n l acc=fK f n (aT false l) acc:=by
 cases f with
 | zero=>rfl
 | succ f=>unfold fK;rw[ih]
theorem kZ:∀(f g n:Nat) (l:List UInt8) (acc:List Tok),l.length<f->l.length<g->fK f n l acc=fK g n l acc
 | 0,g,n,l,acc,h,_=>ad
 | f+1,0,n,l,acc,_,h=>ad
 | f+1,g+1,n,l,acc,J,a2=>by
  unfold fK;have hs:=jF false l
  cases ap:aT false l with
  | nil=>rfl
  | cons c r=>
   rw[ap] at hs;simp only[KQ] at hs;have e1:∀p:UInt8->Bool,p c=true->((c::r).dropWhile p).length<f/\((c::r).dropWhile p).length<g:=λp hp=>by
    have:((c::r).dropWhile p).length<=r.length:=by
     rw[List.dropWhile_cons,if_pos hp];have:=(List.dropWhile_sublist p (l:=r)).length_le;exact this
    omega
   have e2:∀k,k≠0->((c::r).drop k).length<f/\((c::r).drop k).length<g:=λk ap=>by
    simp only[List.length_drop,KQ];omega
   simp only[];by_cases hl:bX c=true
   .simp only[hl,if_true];have z:cf c=true:=by simp[cf,hl]
    rw[kZ f g n _ _ (e1 _ z).1 (e1 _ z).2]
   .simp only[hl,Lj,if_false];by_cases hd:bB c=true
    .simp only[hd,if_true];rw[kZ f g n _ _ (e1 _ hd).1 (e1 _ hd).2]
    .simp only[hd,Lj,if_false];by_cases bt:eY (c::r)=0
     .simp only[bt,if_true]
     .simp only[bt,if_false];rw[kZ f g n _ _ (e2 _ bt).1 (e2 _ bt).2]
theorem tj.next{wr b:World}{m F:Nat}{out a:Value}{t:Tok}(h:tj w wr s k acc out)
  (aB:b.ownsRow w.heap.size 205 4 a (acc.length+1) (acc.flatMap qR++qR t)) (hn:acc.length≠4000) (L:k<m) (hm:m<=s.size)
  (he:fK (s.size - k+1) s.size (s.data.toList.drop k) acc=fK (s.size - k) s.size (s.data.toList.drop m) (acc++[t])) (O:Below w.heap.size w b)
  (cb:m<=F) (cN:F<=s.size) (cp:aT false (s.data.toList.drop m)=s.data.toList.drop F) (bN:aT false (s.data.toList.drop F)=s.data.toList.drop F):tj w b s F (acc++[t]) a:=by
 have J:=h.jy;refine⟨by rw[lp,KF];exact aB,by simp;omega,cN,bN,?_,O⟩;rw[<-h.E3,he,rA (s.size - k),cp];exact zC
theorem vT(s:ByteArray)(hs:s.size<=262144)(ac:aT false (s.data.toList.drop 0)=s.data.toList.drop k):fK (s.size - k+1) s.size (s.data.toList.drop k) []=dt s.data.toList:=by
 have hl:s.data.toList.length=s.size:=by simp
 have g:aT false s.data.toList=s.data.toList.drop k:=by simpa using ac
 unfold dt;rw[hl,if_neg ad,rA (s.size+1),g];exact zC
theorem DI(f n:Nat)(acc:List Tok):fK (f+1) n [] acc=(acc++[⟨5,[],0,(n:Int)⟩],(n:Int),0):=by simp[fK,aT]
theorem uA:s.data.toList.drop k=(s.data.toList.drop k).take n++s.data.toList.drop (k+n):=by
 rw[<-List.drop_drop,List.take_append_drop]
theorem rD(h:∀hl:k+n<s.size,p (s[k+n]'hl)=false):∀c,(s.data.toList.drop (k+n)).head?=some c->p c=false:=by
 intro c hc;by_cases hl:k+n<s.size
 .rw[c6 hl] at hc;simp at hc;subst hc;exact h hl
 .rw[Lh (by simp;omega)] at hc;cases hc
theorem sL(h:k<s.size):((s.size:Nat):Int) - ((s.data.toList.drop (k+1)).length+1)=(k:Int):=by rw[mq];omega
theorem yl(ap:k<s.size)(g:aT false (s.data.toList.drop k)=s.data.toList.drop k)(hl:bX s[k]=true)(y:((s.data.toList.drop k).take n).all cf=true)
  (d:∀h:k+n<s.size,cf (s[k+n]'h)=false) :
  fK (f+1) s.size (s.data.toList.drop k) acc=if (!dE ((s.data.toList.drop k).take n) && decide (16<((s.data.toList.drop k).take n).length))=true then ([],(k:Int),3)
   else if acc.length=4000 then ([],(k:Int),3) else fK f s.size (s.data.toList.drop (k+n)) (acc++[⟨if dE ((s.data.toList.drop k).take n) then 3 else 1,(s.data.toList.drop k).take n,0,(k:Int)⟩]):=by
 have o:=g4 y (rD d);rw[<-uA] at o;rw[fK,g];rw[c6 ap] at o ⊢;simp only[hl,if_true,o.1,o.2,sL ap]
theorem DJ(ap:k<s.size)(g:aT false (s.data.toList.drop k)=s.data.toList.drop k)(hl:bX s[k]=false)(hd:bB s[k]=true)(y:((s.data.toList.drop k).take n).all bB=true)
  (d:∀h:k+n<s.size,bB (s[k+n]'h)=false) :
  fK (f+1) s.size (s.data.toList.drop k) acc=if pZ ((s.data.toList.drop k).take n)<0 then ([],(k:Int),2)
   else if acc.length=4000 then ([],(k:Int),3) else fK f s.size (s.data.toList.drop (k+n)) (acc++[⟨2,(s.data.toList.drop k).take n,pZ ((s.data.toList.drop k).take n),(k:Int)⟩]):=by
 have o:=g4 y (rD d);rw[<-uA] at o;rw[fK,g];rw[c6 ap] at o ⊢;simp only[hl,hd,Lj,if_false,if_true,o.1,o.2,sL ap]
theorem yk(ap:k<s.size)(g:aT false (s.data.toList.drop k)=s.data.toList.drop k)(hl:bX s[k]=false)(hd:bB s[k]=false):
  fK (f+1) s.size (s.data.toList.drop k) acc=if eY (s.data.toList.drop k)=0 then ([],(k:Int),1)
   else if acc.length=4000 then ([],(k:Int),3) else fK f s.size (s.data.toList.drop (k+eY (s.data.toList.drop k))) (acc++[⟨4,(s.data.toList.drop k).take (eY (s.data.toList.drop k)),0,(k:Int)⟩]):=by
 have au:s.data.toList.drop (k+eY (s.data.toList.drop k))=(s.data.toList.drop k).drop (eY (s.data.toList.drop k)):=by rw[List.drop_drop]
 rw[au,fK,g];rw[c6 ap];simp only[hl,hd,Lj,if_false,sL ap]
theorem Ea(l:List UInt8)(h:l≠[]):eY l<=l.length:=by
 unfold eY
 have:1<=l.length:=by cases l with
  | nil=>exact absurd rfl h
  | cons=>simp
 split
 .rename_i ag;simp only[KP,Li] at ag;exact ag.2
 .split<;>omega
theorem pk(hl:k+n<s.size)(h:((s.data.toList.drop k).take n).all p=true)(hp:p (s[k+n]'hl)=true):((s.data.toList.drop k).take (n+1)).all p=true:=by
 have a2:(s.data.toList.drop k)[n]?=some (s[k+n]'hl):=by rw[List.getElem?_drop];exact byte_at hl
 rw[aZ a2,List.all_append,h];simp[hp]
theorem gW(hc:s.size<=cap)(hn:0<n)(ap:k+n<=s.size)(W:World):
  (Instr.slice 127 (.slice (some ⟨b,o,none⟩) s.size cap) (some (.int .i64 (k:Int))) (some (.int .i64 ((k:Int)+(n:Int)))) none).run prog W=.ok (.slice (some ⟨b,o+k,none⟩) n (cap - k)) W:=nF hc hn ap W
theorem qZ(s:ByteArray)(k n:Nat):strOf ((s.data.toList.drop k).take n)=s.extract k (k+n):=by rw[<-gh,wF]
structure tp(wr X:World)(kind num:Int)(k:Nat):Prop where
 below:Below wr.heap.size wr X
 blk:aq X wr.heap.size 205 #[.int .i64 kind,.string ⟨#[]⟩,.int .i64 num,.int .i64 k]
 lt:wr.heap.size<X.heap.size
theorem xy(s:ByteArray)(b o cap:Nat)(w:World)(h:ft w b o cap s)(hs:s.size<=262144) :
  Calls prog 102 #[.slice (some ⟨b,o,none⟩) s.size cap] w (ko w (dt s.data.toList)):=by
 have H:=ae h;have M:=h.fit;clear h;go_enter func102,ntmps102;go_wp2_with(fail);refine(show Calls prog 129 #[.slice (some ⟨b,o,none⟩) s.size cap,.int .i64 0] _ _ from kI s b o cap 0 _ H.o (KZ _)).mono ?_;rintro e ab ⟨rfl,rfl⟩;obtain⟨dh,_,bz,ac,au,aU⟩:=mR s 0 (KZ _);rw[aU];have a7:=ae (show tj w w s dh [] (.slice none 0 0) from ⟨⟨by simp,.inl ⟨rfl,rfl⟩⟩,by simp,bz,au,vT s hs ac,Below.refl _ _⟩);clear ac au aU;go_wp2_with(fail);go_loopw [5,6] (λout i wr=>∃(k:Nat) (acc:List Tok),i=.int .i64 k/\tj w wr s k acc out) (λ_ i _=>s.size+1 - (intOf i).toNat)
 case atStart=>exact⟨dh,[],rfl,a7.o⟩
 case round=>
  obtain⟨k,acc,rfl,bR⟩:=hrel;have b9:=ae bR;clear a7 bz;obtain⟨A,c,aC,b3,_,_,_⟩:=b1 bR.own;subst aC;have L:=bR.jy;have hle:=bR.le;clear bR;by_cases ak:k<s.size
  case neg=>
   have b8:k=s.size:=ad;have q:((k:Int) == (s.size:Int))=true:=by simp;omega
   have aW:=ae (show dt s.data.toList=(acc++[⟨5,[],0,(s.size:Int)⟩],(s.size:Int),0) by
    rw[<-b9.E3,b8,Lh (by simp)];exact DI _ _ _)
   subst b8;go_wp2_with((at_builtin;refine dk wr pq rfl (.tmp 21) (.tmp 24) rfl w.heap.size _ _ _ #[.int .i64 5,.string ⟨#[]⟩,.int .i64 0,.int .i64 s.size] rfl b9.own rfl rfl (by simp[Value.oneCell']) ad ad b9.below.size ?_;intro v2 aT az bF E;obtain⟨A2,c2,rfl,P,_⟩:=b1 az))
   go_ret3
   rw[aW.o];refine⟨A2,acc.length+1,c2,rfl,P,jE (l:=acc++[⟨5,[],0,(s.size:Int)⟩]) (by rw[lp];exact az) (DH _) (by simp),?_⟩;exact fO b9.below b9.own bF (KD _) b9.below.size
  have q:((k:Int) == (s.size:Int))=false:=by simp;omega
  have hc:=H.Fh b9.below;have aF:=hc.byte ak;have aI:=hc.lt;have U:∀(j:Nat) (bi:j<s.size) (cs:Array Value) (t:TypeId),(wr.alloc (.cells cs t)).cell? ⟨b,o+j,none⟩=some (.int .u8 (s[j].toNat:Int)):=λj bi cs t=>(hc.on (Ll.alloc _)).byte bi;obtain⟨bQ,av⟩:=aH hc U;have cr:=U k ak #[.int .i64 0,.string ⟨#[]⟩,.int .i64 0,.int .i64 k] 205;clear hc U;go_wp2_with(fail);refine(lX s[k] _).mono ?_;rintro e ab ⟨rfl,rfl⟩;by_cases hl:bX s[k]=true
  .rw[hl];have aA:=ae hl;clear hl cr;go_wp2_with(fail)
   go_loop [8] (λe=>∃n:Nat,k+n<=s.size/\e=.int .i64 ((k:Int)+(n:Int))/\((s.data.toList.drop k).take n).all cf=true) (λe=>s.size+1 - (intOf e).toNat)
   case atStart=>exact⟨0,ad,by simp,by simp⟩
   case round=>
    obtain⟨n,hn,rfl,y⟩:=hrel;have HA:=ae y;clear y;have t1:((k:Int)+(n:Int)).toNat=k+n:=ad;have ax:(0:Int)<=(k:Int)+(n:Int):=ad;by_cases cG:k+n<s.size
    case' pos=>
     have cy:=av.o (k+n) cG #[.int .i64 0,.string ⟨#[]⟩,.int .i64 0,.int .i64 k] 205;have bp:(k:Int)+(n:Int)<(s.size:Int):=ad;go_wp2_with(fail);refine(lX s[k+n] _).mono ?_;rintro e ab ⟨rfl,rfl⟩;by_cases cg:bX s[k+n]=true
     .rw[cg];have cH:=ae (pk (p:=cf) cG HA.o (by simp[cf,cg]));clear cg;go_wp2
      go_round
      case rel=>exact⟨n+1,ad,by simp;omega,cH.o⟩
      case measure=>exact aG
     have al:bX s[k+n]=false:=by simpa using cg
     rw[al];have J:=ae al;clear cg al;go_wp2_with(fail);refine(kQ s[k+n] _).mono ?_;rintro e ab ⟨rfl,rfl⟩;by_cases bc:bB s[k+n]=true
     .rw[bc];have cH:=ae (pk (p:=cf) cG HA.o (by simp[cf,bc]));clear bc;go_wp2
      go_round
      case rel=>exact⟨n+1,ad,by simp;omega,cH.o⟩
      case measure=>exact aG
     have D:bB s[k+n]=false:=by simpa using bc
     rw[D];have z:cf s[k+n]=false:=by simp[cf,J.o,D]
     have aj:=ae (show 0<n from by
      rcases Nat.eq_zero_or_pos n with h0|h0
      .subst h0;have:=J.o;simp only[KN] at this;rw[aA.o] at this;cases this
      .exact h0)
     have O:=ae (show ∀h:k+n<s.size,cf (s[k+n]'h)=false from λ_=>z);clear bc D z cy
    case' neg=>
     have bp:decide ((k:Int)+(n:Int)<(s.size:Int))=false:=by simp;omega
     have aj:=ae (show 0<n by omega);have O:=ae (show ∀h:k+n<s.size,cf (s[k+n]'h)=false from λh=>absurd h cG)
    all_goals
     have aM:0<n:=aj.o;have K:=ae (b9.E3.symm.trans (yl (f:=s.size - k) (acc:=acc) ak b9.skip aA.o HA.o O.o));have s2:=λW=>gW (b:=b) (o:=o) M aM hn W;have c2:=λ(cs:Array Value) (t:TypeId)=>j5 (bQ.on (Ll.alloc (.cells cs t))) (k:=k) (n:=n) (cap - k) hn;go_wp2_with(fail);refine(mP (s.extract k (k+n)) _).mono ?_;rintro e aT ⟨rfl,bg⟩;clear s2 c2;have d:tp wr aT 1 0 k:=by
      have e1:Ext wr aT:=(Ll.alloc _).trans bg;have am:=(aq.new wr 205 #[.int .i64 1,.string ⟨#[]⟩,.int .i64 0,.int .i64 k]).ai bg;exact⟨Fr.ext e1,am,am.lt⟩
     clear bg;have Q:=ae d;obtain⟨Z,ao,ap⟩:=d.blk.two;clear d;have aD:ie (s.extract k (k+n))=dE ((s.data.toList.drop k).take n):=by unfold ie;rw[gh]
     rw[aD];clear aD;have hlen:((s.data.toList.drop k).take n).length=n:=by simp;omega
     by_cases a5:dE ((s.data.toList.drop k).take n)=true
     .rw[a5] at K ⊢;have bq:=ae (K.o);clear a5 hlen K;simp only[Bool.not_true,Bool.false_and,Lj,if_false,if_true] at bq;go_upto_region 28 with(fail);generalize hX:World.setCell aT _ _=X;have r:tp wr X 3 0 k:=by
       exact zb
      clear hX Z ao ap;have aa:=ae r;obtain⟨bs,aV,bu⟩:=r.blk.two;clear r;by_cases bE:acc.length=4000
      .have df:((acc.length:Int) == 4000)=true:=by simp;omega
       have V:(acc.length == 4000)=true:=by simp;omega
       have aW:=ae (bq.trans (if_pos bE));clear bE;go_wp2
       go_ret3
       exact rZ
      have df:((acc.length:Int) == 4000)=false:=by simp;omega
      have V:(acc.length == 4000)=false:=by simp;omega
      have aW:=ae (bq.trans (if_neg bE));have R:=ae bE;clear bE;have G:ft X b o cap s:=bQ.Fh aa.below;have T:=λW=>gW (b:=b) (o:=o) M aM hn W;have c3:=j5 G (k:=k) (n:=n) (cap - k) hn;have ar:=ae G;clear G;go_upto_region 31 with(fail);generalize ct:World.setCell X _ _=Y;have C:Below wr.heap.size wr Y:=ct▸aa.below.setCell (p:=⟨wr.heap.size,1,none⟩) (KD _) _;have ai:aq Y wr.heap.size 205 #[.int .i64 3,.string (s.extract k (k+n)),.int .i64 0,.int .i64 k]:=ct▸aa.blk.aM 1 _;obtain⟨bv,af,ag⟩:=ai.two;have x:=ae C;clear ct C ai bs aV bu T c3;go_wp2_with((at_builtin;refine dk Y pq rfl (.tmp 119) (.tmp 121) rfl w.heap.size _ _ _ #[.int .i64 3,.string (s.extract k (k+n)),.int .i64 0,.int .i64 k] rfl (b0 b9.own x.o) rfl rfl (by simp[Value.oneCell']) ad ad (KU b9.below.size x.size) ?_;intro v2 c7 az bF E;obtain⟨A2,c2,rfl,P,_⟩:=b1 az));have S:Below w.heap.size w c7:=fO (b9.below.trans (x.mono b9.below.size)) (b0 b9.own x.o) bF (KD _) (KU b9.below.size x.size);have N:=ah S az;clear S az bF E bv af ag;have g:=kI s b o cap (k+n) c7 (H.Fh N.1) hn;rw[Int.natCast_add] at g;refine g.mono ?_;clear g;rintro e ab ⟨rfl,rfl⟩;obtain⟨F,cb,cN,cp,bN,cO⟩:=mR s (k+n) hn;rw[cO];have bo:=ah cp bN;clear cp bN cO;go_wp2;go_roundw
      case rel=>
       refine⟨F,acc++[⟨3,(s.data.toList.drop k).take n,0,(k:Int)⟩],rfl,b9.next (m:=k+n) ?_ R.o ad hn (b9.E3.trans aW.o) N.1 cb cN bo.1 bo.2⟩;exact r5
      case measure=>exact aG
     have I:dE ((s.data.toList.drop k).take n)=false:=by simpa using a5
     rw[I] at K ⊢;by_cases an:16<n
     .have bq:=ae (K.trans (if_pos (by rw[hlen];simp[an])));clear a5 I hlen;go_wp2
      go_ret3
      exact ko.bad bq.o (b9.below.trans (Q.below.mono b9.below.size))
     have bq:=ae (K.trans (if_neg (by rw[hlen];simp[an])));simp only[Lj,if_false] at bq;clear a5 I hlen K;go_upto_region 28 with(fail);have X:World:=aT;clear X;generalize aT=X at *;have r:=Q.o;clear Z ao ap;have aa:=ae r;obtain⟨bs,aV,bu⟩:=r.blk.two;clear r;by_cases bE:acc.length=4000
     .have df:((acc.length:Int) == 4000)=true:=by simp;omega
      have V:(acc.length == 4000)=true:=by simp;omega
      have aW:=ae (bq.trans (if_pos bE));clear bE;go_wp2
      go_ret3
      exact rZ
     have df:((acc.length:Int) == 4000)=false:=by simp;omega
     have V:(acc.length == 4000)=false:=by simp;omega
     have aW:=ae (bq.trans (if_neg bE));have R:=ae bE;clear bE;have G:ft X b o cap s:=bQ.Fh aa.below;have T:=λW=>gW (b:=b) (o:=o) M aM hn W;have c3:=j5 G (k:=k) (n:=n) (cap - k) hn;have ar:=ae G;clear G;go_upto_region 31 with(fail);generalize ct:World.setCell X _ _=Y;have C:Below wr.heap.size wr Y:=ct▸aa.below.setCell (p:=⟨wr.heap.size,1,none⟩) (KD _) _;have ai:aq Y wr.heap.size 205 #[.int .i64 1,.string (s.extract k (k+n)),.int .i64 0,.int .i64 k]:=ct▸aa.blk.aM 1 _;obtain⟨bv,af,ag⟩:=ai.two;have x:=ae C;clear ct C ai bs aV bu T c3;go_wp2_with((at_builtin;refine dk Y pq rfl (.tmp 119) (.tmp 121) rfl w.heap.size _ _ _ #[.int .i64 1,.string (s.extract k (k+n)),.int .i64 0,.int .i64 k] rfl (b0 b9.own x.o) rfl rfl (by simp[Value.oneCell']) ad ad (KU b9.below.size x.size) ?_;intro v2 c7 az bF E;obtain⟨A2,c2,rfl,P,_⟩:=b1 az));have S:Below w.heap.size w c7:=fO (b9.below.trans (x.mono b9.below.size)) (b0 b9.own x.o) bF (KD _) (KU b9.below.size x.size);have N:=ah S az;clear S az bF E bv af ag;have g:=kI s b o cap (k+n) c7 (H.Fh N.1) hn;rw[Int.natCast_add] at g;refine g.mono ?_;clear g;rintro e ab ⟨rfl,rfl⟩;obtain⟨F,cb,cN,cp,bN,cO⟩:=mR s (k+n) hn;rw[cO];have bo:=ah cp bN;clear cp bN cO;go_wp2;go_roundw
     case rel=>
      refine⟨F,acc++[⟨1,(s.data.toList.drop k).take n,0,(k:Int)⟩],rfl,b9.next (m:=k+n) ?_ R.o ad hn (b9.E3.trans aW.o) N.1 cb cN bo.1 bo.2⟩;exact r5
     case measure=>exact aG
  have aB:bX s[k]=false:=by simpa using hl
  rw[aB];have ay:=ae aB;clear hl aB;go_wp2_with(fail);refine(kQ s[k] _).mono ?_;rintro e ab ⟨rfl,rfl⟩;by_cases hd:bB s[k]=true
  .rw[hd];have aw:=ae hd;clear hd cr;go_wp2_with(fail)
   go_loop [8] (λe=>∃n:Nat,k+n<=s.size/\e=.int .i64 ((k:Int)+(n:Int))/\((s.data.toList.drop k).take n).all bB=true) (λe=>s.size+1 - (intOf e).toNat)
   case atStart=>exact⟨0,ad,by simp,by simp⟩
   case round=>
    obtain⟨n,hn,rfl,y⟩:=hrel;have HA:=ae y;clear y;have t1:((k:Int)+(n:Int)).toNat=k+n:=ad;have ax:(0:Int)<=(k:Int)+(n:Int):=ad;by_cases cG:k+n<s.size
    case' pos=>
     have cy:=av.o (k+n) cG #[.int .i64 0,.string ⟨#[]⟩,.int .i64 0,.int .i64 k] 205;have bp:(k:Int)+(n:Int)<(s.size:Int):=ad;go_wp2_with(fail);refine(kQ s[k+n] _).mono ?_;rintro e ab ⟨rfl,rfl⟩;by_cases bc:bB s[k+n]=true
     .rw[bc];have cH:=ae (pk (p:=bB) cG HA.o bc);clear bc;go_wp2
      go_round
      case rel=>exact⟨n+1,ad,by simp;omega,cH.o⟩
      case measure=>exact aG
     have D:bB s[k+n]=false:=by simpa using bc
     rw[D];have aj:=ae (show 0<n from by
      rcases Nat.eq_zero_or_pos n with h0|h0
      .subst h0;simp only[KN] at D;rw[aw.o] at D;cases D
      .exact h0)
     have O:=ae (show ∀h:k+n<s.size,bB (s[k+n]'h)=false from λ_=>D);clear bc D cy
    case' neg=>
     have bp:decide ((k:Int)+(n:Int)<(s.size:Int))=false:=by simp;omega
     have aj:=ae (show 0<n by omega);have O:=ae (show ∀h:k+n<s.size,bB (s[k+n]'h)=false from λh=>absurd h cG)
    all_goals
     have aM:0<n:=aj.o;have K:=ae (b9.E3.symm.trans (DJ (f:=s.size - k) (acc:=acc) ak b9.skip ay.o aw.o HA.o O.o));have s2:=λW=>gW (b:=b) (o:=o) M aM hn W;go_wp2_with(fail);refine(v9 s b o cap k n (cap - k) _ (bQ.on (Ll.alloc _)) hn HA.o).mono ?_;rintro e ab ⟨rfl,rfl⟩;clear s2;generalize pZ ((s.data.toList.drop k).take n)=v at *;by_cases bI:v<0
     .have bq:=ae (K.trans (if_pos bI));have aJ:decide (v<0)=true:=by simpa using bI
      clear K;go_wp2
      go_ret3
      exact ko.bad bq.o (b9.below.trans (((Below.refl _ _).alloc (KD _) _).mono b9.below.size))
     have bq:=ae (K.trans (if_neg bI));have aJ:decide (v<0)=false:=by simpa using bI
     clear K bI;go_upto_region 28 with(fail);generalize hX:World.alloc wr _=X;have r:tp wr X 2 v k:=by
      rw[<-hX];exact⟨(Below.refl _ _).alloc (KD _) _,Lm,by simp⟩
     clear hX;have aa:=ae r;obtain⟨bs,aV,bu⟩:=r.blk.two;clear r;by_cases bE:acc.length=4000
     .have df:((acc.length:Int) == 4000)=true:=by simp;omega
      have V:(acc.length == 4000)=true:=by simp;omega
      have aW:=ae (bq.trans (if_pos bE));clear bE;go_wp2
      go_ret3
      exact rZ
     have df:((acc.length:Int) == 4000)=false:=by simp;omega
     have V:(acc.length == 4000)=false:=by simp;omega
     have aW:=ae (bq.trans (if_neg bE));have R:=ae bE;clear bE;have G:ft X b o cap s:=bQ.Fh aa.below;have T:=λW=>gW (b:=b) (o:=o) M aM hn W;have c3:=j5 G (k:=k) (n:=n) (cap - k) hn;have ar:=ae G;clear G;go_upto_region 31 with(fail);generalize ct:World.setCell X _ _=Y;have C:Below wr.heap.size wr Y:=ct▸aa.below.setCell (p:=⟨wr.heap.size,1,none⟩) (KD _) _;have ai:aq Y wr.heap.size 205 #[.int .i64 2,.string (s.extract k (k+n)),.int .i64 v,.int .i64 k]:=ct▸aa.blk.aM 1 _;obtain⟨bv,af,ag⟩:=ai.two;have x:=ae C;clear ct C ai bs aV bu T c3;go_wp2_with((at_builtin;refine dk Y pq rfl (.tmp 119) (.tmp 121) rfl w.heap.size _ _ _ #[.int .i64 2,.string (s.extract k (k+n)),.int .i64 v,.int .i64 k] rfl (b0 b9.own x.o) rfl rfl (by simp[Value.oneCell']) ad ad (KU b9.below.size x.size) ?_;intro v2 c7 az bF E;obtain⟨A2,c2,rfl,P,_⟩:=b1 az));have S:Below w.heap.size w c7:=fO (b9.below.trans (x.mono b9.below.size)) (b0 b9.own x.o) bF (KD _) (KU b9.below.size x.size);have N:=ah S az;clear S az bF E bv af ag;have g:=kI s b o cap (k+n) c7 (H.Fh N.1) hn;rw[Int.natCast_add] at g;refine g.mono ?_;clear g;rintro e ab ⟨rfl,rfl⟩;obtain⟨F,cb,cN,cp,bN,cO⟩:=mR s (k+n) hn;rw[cO];have bo:=ah cp bN;clear cp bN cO;go_wp2;go_roundw
     case rel=>
      refine⟨F,acc++[⟨2,(s.data.toList.drop k).take n,v,(k:Int)⟩],rfl,b9.next (m:=k+n) ?_ R.o ad hn (b9.E3.trans aW.o) N.1 cb cN bo.1 bo.2⟩;exact r5
     case measure=>exact aG
  have u:bB s[k]=false:=by simpa using hd
  rw[u];have aE:=ae u;clear hd u cr;go_wp2_with(fail);refine(Eb s b o cap k _ (bQ.on (Ll.alloc _)) ak).mono ?_;rintro e aT ⟨rfl,bg⟩;have d:tp wr aT 0 0 k:=by
   have e1:Ext wr aT:=(Ll.alloc _).trans bg;have am:=(aq.new wr 205 #[.int .i64 0,.string ⟨#[]⟩,.int .i64 0,.int .i64 k]).ai bg;exact⟨Fr.ext e1,am,am.lt⟩
  clear bg;have Q:=ae d;obtain⟨Z,ao,ap⟩:=d.blk.two;clear d;have K:=ae (b9.E3.symm.trans (yk (f:=s.size - k) (acc:=acc) ak b9.skip ay.o aE.o));have bH:=Ea (s.data.toList.drop k) (by rw[c6 ak];simp);rw[mq] at bH;generalize eY (s.data.toList.drop k)=n at *;have hn:k+n<=s.size:=ad;by_cases bt:n=0
  .have bV:(((k:Int)+(n:Int)) == (k:Int))=true:=by simp;omega
   have bq:=ae (K.trans (if_pos bt));have ck:(n:Int)=0:=ad;subst bt;clear K bV ck;go_wp2
   go_ret3
   exact ko.bad bq.o (b9.below.trans ((Q.below.setCell (p:=⟨wr.heap.size,0,none⟩) (KD _) _).mono b9.below.size))
  have bV:(((k:Int)+(n:Int)) == (k:Int))=false:=by simp;omega
  have bq:=ae (K.trans (if_neg bt));have aM:0<n:=ad;clear K bt;go_upto_region 28 with(fail);generalize hX:World.setCell aT _ _=X;have r:tp wr X 4 0 k:=by
   exact zb
  clear hX Z ao ap;have aa:=ae r;obtain⟨bs,aV,bu⟩:=r.blk.two;clear r;by_cases bE:acc.length=4000
  .have df:((acc.length:Int) == 4000)=true:=by simp;omega
   have V:(acc.length == 4000)=true:=by simp;omega
   have aW:=ae (bq.trans (if_pos bE));clear bE;go_wp2
   go_ret3
   exact rZ
  have df:((acc.length:Int) == 4000)=false:=by simp;omega
  have V:(acc.length == 4000)=false:=by simp;omega
  have aW:=ae (bq.trans (if_neg bE));have R:=ae bE;clear bE;have G:ft X b o cap s:=bQ.Fh aa.below;have T:=λW=>gW (b:=b) (o:=o) M aM hn W;have c3:=j5 G (k:=k) (n:=n) (cap - k) hn;have ar:=ae G;clear G;go_upto_region 31 with(fail);generalize ct:World.setCell X _ _=Y;have C:Below wr.heap.size wr Y:=ct▸aa.below.setCell (p:=⟨wr.heap.size,1,none⟩) (KD _) _;have ai:aq Y wr.heap.size 205 #[.int .i64 4,.string (s.extract k (k+n)),.int .i64 0,.int .i64 k]:=ct▸aa.blk.aM 1 _;obtain⟨bv,af,ag⟩:=ai.two;have x:=ae C;clear ct C ai bs aV bu T c3;go_wp2_with((at_builtin;refine dk Y pq rfl (.tmp 119) (.tmp 121) rfl w.heap.size _ _ _ #[.int .i64 4,.string (s.extract k (k+n)),.int .i64 0,.int .i64 k] rfl (b0 b9.own x.o) rfl rfl (by simp[Value.oneCell']) ad ad (KU b9.below.size x.size) ?_;intro v2 c7 az bF E;obtain⟨A2,c2,rfl,P,_⟩:=b1 az));have S:Below w.heap.size w c7:=fO (b9.below.trans (x.mono b9.below.size)) (b0 b9.own x.o) bF (KD _) (KU b9.below.size x.size);have N:=ah S az;clear S az bF E bv af ag;have g:=kI s b o cap (k+n) c7 (H.Fh N.1) hn;rw[Int.natCast_add] at g;refine g.mono ?_;clear g;rintro e ab ⟨rfl,rfl⟩;obtain⟨F,cb,cN,cp,bN,cO⟩:=mR s (k+n) hn;rw[cO];have bo:=ah cp bN;clear cp bN cO;go_wp2;go_roundw
  case rel=>
   refine⟨F,acc++[⟨4,(s.data.toList.drop k).take n,0,(k:Int)⟩],rfl,b9.next (m:=k+n) ?_ R.o ad hn (b9.E3.trans aW.o) N.1 cb cN bo.1 bo.2⟩;exact r5
  case measure=>exact aG
end Go.Proofs.YtglbpimocmhojaaGreat
