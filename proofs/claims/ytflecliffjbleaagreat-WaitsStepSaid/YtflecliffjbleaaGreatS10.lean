/- Part 10 of the proof. No condition of its own. -/
import Derived.Test.YtflecliffjbleaaGreatS06
namespace Go.Proofs.YtflecliffjbleaaGreat
open Go.RowKit Go.Proofs.Tryz
set_option maxRecDepth 1000000
set_option maxHeartbeats 25600000
set_option linter.unusedVariables false
variable{s:ByteArray}{d:Int}{acc:List Tok}{b cap f k n o:Nat}{p:UInt8->Bool}{ab w:World}
theorem uF{x:UInt8}(h:(x.toNat:Int)=d+48)(v:Int)(l:List UInt8):iP v (x::l)=if (9223372036854775807 - d) / 10<v then -1 else iP (10*v+d) l:=by
 simp only[iP];rw[h,show d+48 - 48=d by omega]
theorem zj{v:Int}(h:v<=(9223372036854775807 - d) / 10)(hd:0<=d/\d<=9)(bG:0<=v):0<=10*v+d/\10*v+d<=9223372036854775807:=ad
theorem wQ(s:ByteArray)(b o cap k n c:Nat)(w:World)(h:fw w b o cap s)(aj:k+n<=s.size)(hd:((s.data.toList.drop k).take n).all bB=true) :
  Calls prog 104 #[.slice (some ⟨b,o+k,none⟩) n c] w λe ab=>e=.returned (.int .i64 (oT ((s.data.toList.drop k).take n)))/\w=ab:=by
 have H:=ae h;have U:=h.small;have dQ:=ae hd;clear h hd;go_enter func104,ntmps104;go_wp2
 go_loop [3,4] (λa i=>∃(j:Nat) (v:Int),j<=n/\0<=v/\v<=9223372036854775807/\a=.int .i64 v/\i=.int .i64 j/\iP v (((s.data.toList.drop k).take n).drop j)=oT ((s.data.toList.drop k).take n)) (λ_ i=>n - (intOf i).toNat)
 case atStart=>exact⟨0,0,L3 _,ad,ad,rfl,rfl,rfl⟩
 case round=>
  obtain⟨j,v,bi,r,eb,rfl,rfl,g⟩:=hrel;have t:=ae g;clear g;by_cases ap:j<n
  .have hc:=H.byte (k:=k+j) ad;rw[<-Nat.add_assoc] at hc;have f:((s.data.toList.drop k).take n)[j]?=some s[k+j]:=by
    rw[List.getElem?_take_of_lt ap,List.getElem?_drop];exact byte_at ad
   have m:bB s[k+j]=true:=List.all_eq_true.1 dQ.o _ (LF f);have q:48<=s[k+j].toNat/\s[k+j].toNat<=57:=by simpa[bB] using m
   have be:((s.data.toList.drop k).take n).drop j=s[k+j]::((s.data.toList.drop k).take n).drop (j+1):=by
    have hl:=(List.getElem?_eq_some_iff.1 f)
    rw[List.drop_eq_getElem_cons hl.1,hl.2]
   have aR:=ae (t.symm.trans (congrArg (iP v) be));clear f m be;generalize s[k+j]=x at *;obtain⟨d,l⟩:∃d:Int,(x.toNat:Int)=d+48:=⟨(x.toNat:Int) - 48,ad⟩
   rw[l] at hc;have Y:=ae l;have d0:0<=d:=ad;have d1:d<=9:=ad;clear l q;by_cases bd:(9223372036854775807 - d) / 10<v
   .have a2:=ae (aR.trans ((uF Y.o v _).trans (if_pos bd)));go_wp2;go_ret;exact⟨ret_int a2.symm,rfl⟩
   .have a2:=ae (aR.trans ((uF Y.o v _).trans (if_neg bd)));have bH:=ae (zj ad ⟨d0,d1⟩ r);go_wp2
    go_round
    case rel=>exact⟨j+1,10*v+d,ad,bH.1,bH.2,rfl,by go_num,a2.symm⟩
    case measure=>exact aE
  .have K:j=n:=ad;have a2:=ae (show v=oT ((s.data.toList.drop k).take n) by
    rw[<-t.o,K,Mc (by simp;omega)];rfl)
   clear K;go_wp2;go_ret;exact⟨ret_int a2.o,rfl⟩
def rp(t:Tok):List Value:=[.int .i64 t.kind,.string (strOf t.text),.int .i64 t.num,.int .i64 t.pos]
theorem Ep(l:List Tok):∀x∈l,(rp x).length=4:=λ_ _=>rfl
theorem lQ(l:List Tok)(x:Tok):(l++[x]).flatMap rp=l.flatMap rp++rp x:=by
 rw[List.flatMap_append];simp
theorem pS:cm prog 118 141 (.agg #[.int .i64 0,.string ⟨#[]⟩,.int .i64 0,.int .i64 0]) 4 40:=cm.mk' Tryz.underlying118 (by kernel_rfl) rfl ad
theorem fw.Gb(h:fw w b o cap s)(O:Below w.heap.size w ab):fw ab b o cap s:=h.on (Fr.of O)
def kD(w:World)(r:List Tok×Int×Int)(e:Ending)(ab:World):Prop:=
 ∃A n c,e=.returned (.tuple #[.slice A n c,.int .i64 r.2.1,.int .i64 r.2.2])/\n<=c/\cA (EF rp) 4 ab ab.heap.size A n r.1/\Below w.heap.size w ab
theorem kD.bad{p q:Int}{r:List Tok×Int×Int}(a9:r=([],p,q))(O:Below w.heap.size w ab):kD w r (.returned (.tuple #[.slice none 0 0,.int .i64 p,.int .i64 q])) ab:=by
 subst a9;exact⟨none,0,0,rfl,Lz _,cA.bT _,O⟩
structure tP(w wr:World)(s:ByteArray)(k:Nat)(acc:List Tok)(out:Value):Prop where
 own:wr.ownsRow w.heap.size 141 4 out acc.length (acc.flatMap rp)
 jf:acc.length<=4000
 le:k<=s.size
 skip:aS false (s.data.toList.drop k)=s.data.toList.drop k
 FW:fI (s.size - k+1) s.size (s.data.toList.drop k) acc=ez s.data.toList
 below:Below w.heap.size w wr
theorem mO(s:ByteArray)(k:Nat):(s.data.toList.drop k).length=s.size - k:=by simp
theorem hB:∀(b:Bool) (l:List UInt8),∃n,aS b l=l.drop n/\n<=l.length
 | b,[]=>⟨0,by cases b<;>rfl,Lz _⟩
 | true,c::l=>by
  by_cases h:c=10
  .obtain⟨n,ac,ax⟩:=hB false l;exact⟨n+1,by rw[aS,if_pos h,ac];rfl,by simp;omega⟩
  .obtain⟨n,ac,ax⟩:=hB true l
   exact⟨n+1,by rw[aS,if_neg h,ac];rfl,by simp;omega⟩
 | false,c::l=>by
  by_cases h:pC c=true
  .obtain⟨n,ac,ax⟩:=hB false l;exact⟨n+1,by rw[aS,if_pos h,ac];rfl,by simp;omega⟩
  .by_cases ax:c=47/\l.head?=some 47
   .obtain⟨n,ac,a1⟩:=hB true l;exact⟨n+1,by rw[aS,if_neg h,if_pos ax,ac];rfl,by simp;omega⟩
   .exact⟨0,by rw[aS,if_neg h,if_neg ax];rfl,by simp⟩
theorem iy:∀(b:Bool) (l:List UInt8),aS false (aS b l)=aS b l
 | b,[]=>by cases b<;>rfl
 | true,c::l=>by
  rw[aS];split
  .exact iy false l
  .exact iy true l
 | false,c::l=>by
  by_cases h:pC c=true
  .rw[lH h];exact iy false l
  .by_cases ax:c=47/\l.head?=some 47
   .have e:aS false (c::l)=aS true l:=by rw[aS,if_neg h,if_pos ax]
    rw[e];exact iy true l
   .have e:aS false (c::l)=c::l:=by rw[aS,if_neg h,if_neg ax]
    rw[e,e]
theorem nc(s:ByteArray)(m:Nat)(hm:m<=s.size):∃k,m<=k/\k<=s.size/\aS false (s.data.toList.drop m)=s.data.toList.drop k/\aS false (s.data.toList.drop k)=s.data.toList.drop k/\(s.size:Int) - (aS false (s.data.toList.drop m)).length=k:=by
 obtain⟨n,ac,ax⟩:=hB false (s.data.toList.drop m);have hl:(s.data.toList.drop m).length=s.size - m:=by simp
 refine⟨m+n,ad,ad,?_,?_,?_⟩
 .rw[ac,List.drop_drop]
 .rw[<-List.drop_drop,<-ac];exact iy _ _
 .rw[ac,List.length_drop,hl];omega
theorem r3(f n:Nat)(l:List UInt8)(acc:List Tok):fI f n l acc=fI f n (aS false l) acc:=by
 cases f with
 | zero=>rfl
 | succ f=>unfold fI;rw[iy]
theorem lz:∀(f g n:Nat) (l:List UInt8) (acc:List Tok),l.length<f->l.length<g->fI f n l acc=fI g n l acc
 | 0,g,n,l,acc,h,_=>ad
 | f+1,0,n,l,acc,_,h=>ad
 | f+1,g+1,n,l,acc,J,aY=>by
  unfold fI;have hs:=jR false l
  cases aj:aS false l with
  | nil=>rfl
  | cons c r=>
   rw[aj] at hs;simp only[LP] at hs;have e1:∀p:UInt8->Bool,p c=true->((c::r).dropWhile p).length<f/\((c::r).dropWhile p).length<g:=λp hp=>by
    have:((c::r).dropWhile p).length<=r.length:=by
     rw[List.dropWhile_cons,if_pos hp];have:=(List.dropWhile_sublist p (l:=r)).length_le;exact this
    omega
   have e2:∀k,k≠0->((c::r).drop k).length<f/\((c::r).drop k).length<g:=λk aj=>by
    simp only[List.length_drop,LP];omega
   simp only[];by_cases hl:bX c=true
   .simp only[hl,if_true];have z:cf c=true:=by simp[cf,hl]
    rw[lz f g n _ _ (e1 _ z).1 (e1 _ z).2]
   .simp only[hl,Me,if_false];by_cases hd:bB c=true
    .simp only[hd,if_true];rw[lz f g n _ _ (e1 _ hd).1 (e1 _ hd).2]
    .simp only[hd,Me,if_false];by_cases aG:fi (c::r)=0
     .simp only[aG,if_true]
     .simp only[aG,if_false];rw[lz f g n _ _ (e2 _ aG).1 (e2 _ aG).2]
theorem tP.next{wr b:World}{m F:Nat}{out a:Value}{t:Tok}(h:tP w wr s k acc out)
  (az:b.ownsRow w.heap.size 141 4 a (acc.length+1) (acc.flatMap rp++rp t)) (hn:acc.length≠4000) (M:k<m) (hm:m<=s.size)
  (he:fI (s.size - k+1) s.size (s.data.toList.drop k) acc=fI (s.size - k) s.size (s.data.toList.drop m) (acc++[t])) (O:Below w.heap.size w b)
  (b7:m<=F) (cK:F<=s.size) (cg:aS false (s.data.toList.drop m)=s.data.toList.drop F) (bP:aS false (s.data.toList.drop F)=s.data.toList.drop F):tP w b s F (acc++[t]) a:=by
 have J:=h.jf;refine⟨by rw[lQ,LD];exact az,by simp;omega,cK,bP,?_,O⟩;rw[<-h.FW,he,r3 (s.size - k),cg];exact An
theorem wH(s:ByteArray)(hs:s.size<=262144)(ac:aS false (s.data.toList.drop 0)=s.data.toList.drop k):fI (s.size - k+1) s.size (s.data.toList.drop k) []=ez s.data.toList:=by
 have hl:s.data.toList.length=s.size:=by simp
 have g:aS false s.data.toList=s.data.toList.drop k:=by simpa using ac
 unfold ez;rw[hl,if_neg ad,r3 (s.size+1),g];exact An
theorem Er(f n:Nat)(acc:List Tok):fI (f+1) n [] acc=(acc++[⟨5,[],0,(n:Int)⟩],(n:Int),0):=by simp[fI,aS]
theorem vg:s.data.toList.drop k=(s.data.toList.drop k).take n++s.data.toList.drop (k+n):=by
 rw[<-List.drop_drop,List.take_append_drop]
theorem r6(h:∀hl:k+n<s.size,p (s[k+n]'hl)=false):∀c,(s.data.toList.drop (k+n)).head?=some c->p c=false:=by
 intro c hc;by_cases hl:k+n<s.size
 .rw[da hl] at hc;simp at hc;subst hc;exact h hl
 .rw[Mc (by simp;omega)] at hc;cases hc
theorem td(h:k<s.size):((s.size:Nat):Int) - ((s.data.toList.drop (k+1)).length+1)=(k:Int):=by rw[mO];omega
theorem y9(aj:k<s.size)(g:aS false (s.data.toList.drop k)=s.data.toList.drop k)(hl:bX s[k]=true)(y:((s.data.toList.drop k).take n).all cf=true)
  (u:∀h:k+n<s.size,cf (s[k+n]'h)=false) :
  fI (f+1) s.size (s.data.toList.drop k) acc=if (!dw ((s.data.toList.drop k).take n) && decide (16<((s.data.toList.drop k).take n).length))=true then ([],(k:Int),3)
   else if acc.length=4000 then ([],(k:Int),3) else fI f s.size (s.data.toList.drop (k+n)) (acc++[⟨if dw ((s.data.toList.drop k).take n) then 3 else 1,(s.data.toList.drop k).take n,0,(k:Int)⟩]):=by
 have e:=hf y (r6 u);rw[<-vg] at e;rw[fI,g];rw[da aj] at e ⊢;simp only[hl,if_true,e.1,e.2,td aj]
theorem Es(aj:k<s.size)(g:aS false (s.data.toList.drop k)=s.data.toList.drop k)(hl:bX s[k]=false)(hd:bB s[k]=true)(y:((s.data.toList.drop k).take n).all bB=true)
  (u:∀h:k+n<s.size,bB (s[k+n]'h)=false) :
  fI (f+1) s.size (s.data.toList.drop k) acc=if oT ((s.data.toList.drop k).take n)<0 then ([],(k:Int),2)
   else if acc.length=4000 then ([],(k:Int),3) else fI f s.size (s.data.toList.drop (k+n)) (acc++[⟨2,(s.data.toList.drop k).take n,oT ((s.data.toList.drop k).take n),(k:Int)⟩]):=by
 have e:=hf y (r6 u);rw[<-vg] at e;rw[fI,g];rw[da aj] at e ⊢;simp only[hl,hd,Me,if_false,if_true,e.1,e.2,td aj]
theorem y8(aj:k<s.size)(g:aS false (s.data.toList.drop k)=s.data.toList.drop k)(hl:bX s[k]=false)(hd:bB s[k]=false):
  fI (f+1) s.size (s.data.toList.drop k) acc=if fi (s.data.toList.drop k)=0 then ([],(k:Int),1)
   else if acc.length=4000 then ([],(k:Int),3) else fI f s.size (s.data.toList.drop (k+fi (s.data.toList.drop k))) (acc++[⟨4,(s.data.toList.drop k).take (fi (s.data.toList.drop k)),0,(k:Int)⟩]):=by
 have ax:s.data.toList.drop (k+fi (s.data.toList.drop k))=(s.data.toList.drop k).drop (fi (s.data.toList.drop k)):=by rw[List.drop_drop]
 rw[ax,fI,g];rw[da aj];simp only[hl,hd,Me,if_false,td aj]
theorem EW(l:List UInt8)(h:l≠[]):fi l<=l.length:=by
 unfold fi
 have:1<=l.length:=by cases l with
  | nil=>exact absurd rfl h
  | cons=>simp
 split
 .rename_i ag;simp only[LO,Md] at ag;exact ag.2
 .split<;>omega
theorem pQ(hl:k+n<s.size)(h:((s.data.toList.drop k).take n).all p=true)(hp:p (s[k+n]'hl)=true):((s.data.toList.drop k).take (n+1)).all p=true:=by
 have aY:(s.data.toList.drop k)[n]?=some (s[k+n]'hl):=by rw[List.getElem?_drop];exact byte_at hl
 rw[aU aY,List.all_append,h];simp[hp]
theorem g7(hc:s.size<=cap)(hn:0<n)(aj:k+n<=s.size)(W:World):
  (Instr.slice 78 (.slice (some ⟨b,o,none⟩) s.size cap) (some (.int .i64 (k:Int))) (some (.int .i64 ((k:Int)+(n:Int)))) none).run prog W=.ok (.slice (some ⟨b,o+k,none⟩) n (cap - k)) W:=ob hc hn aj W
theorem rB(s:ByteArray)(k n:Nat):strOf ((s.data.toList.drop k).take n)=s.extract k (k+n):=by rw[<-gy,xg]
structure tS(wr X:World)(kind num:Int)(k:Nat):Prop where
 below:Below wr.heap.size wr X
 blk:ao X wr.heap.size 141 #[.int .i64 kind,.string ⟨#[]⟩,.int .i64 num,.int .i64 k]
 lt:wr.heap.size<X.heap.size
theorem yc(s:ByteArray)(b o cap:Nat)(w:World)(h:fw w b o cap s)(hs:s.size<=262144) :
  Calls prog 58 #[.slice (some ⟨b,o,none⟩) s.size cap] w (kD w (ez s.data.toList)):=by
 have H:=ae h;have M:=h.fit;clear h;go_enter func58,ntmps58;go_wp2_with(fail);refine(show Calls prog 100 #[.slice (some ⟨b,o,none⟩) s.size cap,.int .i64 0] _ _ from k4 s b o cap 0 _ H.o (L3 _)).mono ?_;rintro e ab ⟨rfl,rfl⟩;obtain⟨cS,_,bm,ac,ax,a1⟩:=nc s 0 (L3 _);rw[a1];have a3:=ae (show tP w w s cS [] (.slice none 0 0) from ⟨⟨by simp,.inl ⟨rfl,rfl⟩⟩,by simp,bm,ax,wH s hs ac,Below.refl _ _⟩);clear ac ax a1;go_wp2_with(fail);go_loopw [5,6] (λout i wr=>∃(k:Nat) (acc:List Tok),i=.int .i64 k/\tP w wr s k acc out) (λ_ i _=>s.size+1 - (intOf i).toNat)
 case atStart=>exact⟨cS,[],rfl,a3.o⟩
 case round=>
  obtain⟨k,acc,rfl,bw⟩:=hrel;have b2:=ae bw;clear a3 bm;obtain⟨A,c,aC,bD,_,_,_⟩:=bH bw.own;subst aC;have L:=bw.jf;have hle:=bw.le;clear bw;by_cases ap:k<s.size
  case neg=>
   have b6:k=s.size:=ad;have q:((k:Int) == (s.size:Int))=true:=by simp;omega
   have a2:=ae (show ez s.data.toList=(acc++[⟨5,[],0,(s.size:Int)⟩],(s.size:Int),0) by
    rw[<-b2.FW,b6,Mc (by simp)];exact Er _ _ _)
   subst b6;go_wp2_with((at_builtin;refine cy wr pS rfl (.tmp 21) (.tmp 24) rfl w.heap.size _ _ _ #[.int .i64 5,.string ⟨#[]⟩,.int .i64 0,.int .i64 s.size] rfl b2.own rfl rfl (by simp[Value.oneCell']) ad ad b2.below.size ?_;intro v2 aW S an E;obtain⟨A2,c2,rfl,P,_⟩:=bH S))
   go_ret3
   rw[a2.o];refine⟨A2,acc.length+1,c2,rfl,P,hy (l:=acc++[⟨5,[],0,(s.size:Int)⟩]) (by rw[lQ];exact S) (Ep _) (by simp),?_⟩;exact dX b2.below b2.own an (Lz _) b2.below.size
  have q:((k:Int) == (s.size:Int))=false:=by simp;omega
  have hc:=H.Gb b2.below;have aI:=hc.byte ap;have aJ:=hc.lt;have T:∀(j:Nat) (bi:j<s.size) (cs:Array Value) (t:TypeId),(wr.alloc (.cells cs t)).cell? ⟨b,o+j,none⟩=some (.int .u8 (s[j].toNat:Int)):=λj bi cs t=>(hc.on (Mg.alloc _)).byte bi;obtain⟨bW,av⟩:=aH hc T;have b1:=T k ap #[.int .i64 0,.string ⟨#[]⟩,.int .i64 0,.int .i64 k] 141;clear hc T;go_wp2_with(fail);refine(ml s[k] _).mono ?_;rintro e ab ⟨rfl,rfl⟩;by_cases hl:bX s[k]=true
  .rw[hl];have aA:=ae hl;clear hl b1;go_wp2_with(fail)
   go_loop [8] (λe=>∃n:Nat,k+n<=s.size/\e=.int .i64 ((k:Int)+(n:Int))/\((s.data.toList.drop k).take n).all cf=true) (λe=>s.size+1 - (intOf e).toNat)
   case atStart=>exact⟨0,ad,by simp,by simp⟩
   case round=>
    obtain⟨n,hn,rfl,y⟩:=hrel;have HA:=ae y;clear y;have t1:((k:Int)+(n:Int)).toNat=k+n:=ad;have a6:(0:Int)<=(k:Int)+(n:Int):=ad;by_cases cH:k+n<s.size
    case' pos=>
     have cn:=av.o (k+n) cH #[.int .i64 0,.string ⟨#[]⟩,.int .i64 0,.int .i64 k] 141;have cU:(k:Int)+(n:Int)<(s.size:Int):=ad;go_wp2_with(fail);refine(ml s[k+n] _).mono ?_;rintro e ab ⟨rfl,rfl⟩;by_cases ct:bX s[k+n]=true
     .rw[ct];have co:=ae (pQ (p:=cf) cH HA.o (by simp[cf,ct]));clear ct;go_wp2
      go_round
      case rel=>exact⟨n+1,ad,by simp;omega,co.o⟩
      case measure=>exact aE
     have ak:bX s[k+n]=false:=by simpa using ct
     rw[ak];have J:=ae ak;clear ct ak;go_wp2_with(fail);refine(lg s[k+n] _).mono ?_;rintro e ab ⟨rfl,rfl⟩;by_cases be:bB s[k+n]=true
     .rw[be];have co:=ae (pQ (p:=cf) cH HA.o (by simp[cf,be]));clear be;go_wp2
      go_round
      case rel=>exact⟨n+1,ad,by simp;omega,co.o⟩
      case measure=>exact aE
     have D:bB s[k+n]=false:=by simpa using be
     rw[D];have z:cf s[k+n]=false:=by simp[cf,J.o,D]
     have aj:=ae (show 0<n from by
      rcases Nat.eq_zero_or_pos n with h0|h0
      .subst h0;have:=J.o;simp only[LM] at this;rw[aA.o] at this;cases this
      .exact h0)
     have O:=ae (show ∀h:k+n<s.size,cf (s[k+n]'h)=false from λ_=>z);clear be D z cn
    case' neg=>
     have cU:decide ((k:Int)+(n:Int)<(s.size:Int))=false:=by simp;omega
     have aj:=ae (show 0<n by omega);have O:=ae (show ∀h:k+n<s.size,cf (s[k+n]'h)=false from λh=>absurd h cH)
    all_goals
     have ai:0<n:=aj.o;have K:=ae (b2.FW.symm.trans (y9 (f:=s.size - k) (acc:=acc) ap b2.skip aA.o HA.o O.o));have s2:=λW=>g7 (b:=b) (o:=o) M ai hn W;have c2:=λ(cs:Array Value) (t:TypeId)=>ki (bW.on (Mg.alloc (.cells cs t))) (k:=k) (n:=n) (cap - k) hn;go_wp2_with(fail);refine(m9 (s.extract k (k+n)) _).mono ?_;rintro e aW ⟨rfl,bg⟩;clear s2 c2;have d:tS wr aW 1 0 k:=by
      have e1:Ext wr aW:=(Mg.alloc _).trans bg;have am:=(ao.new wr 141 #[.int .i64 1,.string ⟨#[]⟩,.int .i64 0,.int .i64 k]).aj bg;exact⟨Fr.ext e1,am,am.lt⟩
     clear bg;have N:=ae d;obtain⟨Z,aq,ar⟩:=d.blk.two;clear d;have aD:ix (s.extract k (k+n))=dw ((s.data.toList.drop k).take n):=by unfold ix;rw[gy]
     rw[aD];clear aD;have hlen:((s.data.toList.drop k).take n).length=n:=by simp;omega
     by_cases a9:dw ((s.data.toList.drop k).take n)=true
     .rw[a9] at K ⊢;have bj:=ae (K.o);clear a9 hlen K;simp only[Bool.not_true,Bool.false_and,Me,if_false,if_true] at bj;go_upto_region 28 with(fail);generalize hX:World.setCell aW _ _=X;have r:tS wr X 3 0 k:=by
       exact zX
      clear hX Z aq ar;have Q:=ae r;obtain⟨bU,aX,a4⟩:=r.blk.two;clear r;by_cases aU:acc.length=4000
      .have db:((acc.length:Int) == 4000)=true:=by simp;omega
       have U:(acc.length == 4000)=true:=by simp;omega
       have a2:=ae (bj.trans (if_pos aU));clear aU;go_wp2
       go_ret3
       exact xP
      have db:((acc.length:Int) == 4000)=false:=by simp;omega
      have U:(acc.length == 4000)=false:=by simp;omega
      have a2:=ae (bj.trans (if_neg aU));have R:=ae aU;clear aU;have G:fw X b o cap s:=bW.Gb Q.below;have cJ:=λW=>g7 (b:=b) (o:=o) M ai hn W;have c3:=ki G (k:=k) (n:=n) (cap - k) hn;have au:=ae G;clear G;go_upto_region 31 with(fail);generalize cq:World.setCell X _ _=Y;have u:Below wr.heap.size wr Y:=cq▸Q.below.setCell (p:=⟨wr.heap.size,1,none⟩) (Lz _) _;have ag:ao Y wr.heap.size 141 #[.int .i64 3,.string (s.extract k (k+n)),.int .i64 0,.int .i64 k]:=cq▸Q.blk.aJ 1 _;obtain⟨bv,V,af⟩:=ag.two;have x:=ae u;clear cq u ag bU aX a4 cJ c3;go_wp2_with((at_builtin;refine cy Y pS rfl (.tmp 119) (.tmp 121) rfl w.heap.size _ _ _ #[.int .i64 3,.string (s.extract k (k+n)),.int .i64 0,.int .i64 k] rfl (bR b2.own x.o) rfl rfl (by simp[Value.oneCell']) ad ad (LU b2.below.size x.size) ?_;intro v2 cA S an E;obtain⟨A2,c2,rfl,P,_⟩:=bH S));have aB:Below w.heap.size w cA:=dX (b2.below.trans (x.mono b2.below.size)) (bR b2.own x.o) an (Lz _) (LU b2.below.size x.size);have aw:=ah aB S;clear aB S an E bv V af;have g:=k4 s b o cap (k+n) cA (H.Gb aw.1) hn;rw[Int.natCast_add] at g;refine g.mono ?_;clear g;rintro e ab ⟨rfl,rfl⟩;obtain⟨F,b7,cK,cg,bP,cF⟩:=nc s (k+n) hn;rw[cF];have bM:=ah cg bP;clear cg bP cF;go_wp2;go_roundw
      case rel=>
       refine⟨F,acc++[⟨3,(s.data.toList.drop k).take n,0,(k:Int)⟩],rfl,b2.next (m:=k+n) ?_ R.o ad hn (b2.FW.trans a2.o) aw.1 b7 cK bM.1 bM.2⟩;exact sE
      case measure=>exact aE
     have I:dw ((s.data.toList.drop k).take n)=false:=by simpa using a9
     rw[I] at K ⊢;by_cases al:16<n
     .have bj:=ae (K.trans (if_pos (by rw[hlen];simp[al])));clear a9 I hlen;go_wp2
      go_ret3
      exact kD.bad bj.o (b2.below.trans (N.below.mono b2.below.size))
     have bj:=ae (K.trans (if_neg (by rw[hlen];simp[al])));simp only[Me,if_false] at bj;clear a9 I hlen K;go_upto_region 28 with(fail);have X:World:=aW;clear X;generalize aW=X at *;have r:=N.o;clear Z aq ar;have Q:=ae r;obtain⟨bU,aX,a4⟩:=r.blk.two;clear r;by_cases aU:acc.length=4000
     .have db:((acc.length:Int) == 4000)=true:=by simp;omega
      have U:(acc.length == 4000)=true:=by simp;omega
      have a2:=ae (bj.trans (if_pos aU));clear aU;go_wp2
      go_ret3
      exact xP
     have db:((acc.length:Int) == 4000)=false:=by simp;omega
     have U:(acc.length == 4000)=false:=by simp;omega
     have a2:=ae (bj.trans (if_neg aU));have R:=ae aU;clear aU;have G:fw X b o cap s:=bW.Gb Q.below;have cJ:=λW=>g7 (b:=b) (o:=o) M ai hn W;have c3:=ki G (k:=k) (n:=n) (cap - k) hn;have au:=ae G;clear G;go_upto_region 31 with(fail);generalize cq:World.setCell X _ _=Y;have u:Below wr.heap.size wr Y:=cq▸Q.below.setCell (p:=⟨wr.heap.size,1,none⟩) (Lz _) _;have ag:ao Y wr.heap.size 141 #[.int .i64 1,.string (s.extract k (k+n)),.int .i64 0,.int .i64 k]:=cq▸Q.blk.aJ 1 _;obtain⟨bv,V,af⟩:=ag.two;have x:=ae u;clear cq u ag bU aX a4 cJ c3;go_wp2_with((at_builtin;refine cy Y pS rfl (.tmp 119) (.tmp 121) rfl w.heap.size _ _ _ #[.int .i64 1,.string (s.extract k (k+n)),.int .i64 0,.int .i64 k] rfl (bR b2.own x.o) rfl rfl (by simp[Value.oneCell']) ad ad (LU b2.below.size x.size) ?_;intro v2 cA S an E;obtain⟨A2,c2,rfl,P,_⟩:=bH S));have aB:Below w.heap.size w cA:=dX (b2.below.trans (x.mono b2.below.size)) (bR b2.own x.o) an (Lz _) (LU b2.below.size x.size);have aw:=ah aB S;clear aB S an E bv V af;have g:=k4 s b o cap (k+n) cA (H.Gb aw.1) hn;rw[Int.natCast_add] at g;refine g.mono ?_;clear g;rintro e ab ⟨rfl,rfl⟩;obtain⟨F,b7,cK,cg,bP,cF⟩:=nc s (k+n) hn;rw[cF];have bM:=ah cg bP;clear cg bP cF;go_wp2;go_roundw
     case rel=>
      refine⟨F,acc++[⟨1,(s.data.toList.drop k).take n,0,(k:Int)⟩],rfl,b2.next (m:=k+n) ?_ R.o ad hn (b2.FW.trans a2.o) aw.1 b7 cK bM.1 bM.2⟩;exact sE
     case measure=>exact aE
  have aa:bX s[k]=false:=by simpa using hl
  rw[aa];have az:=ae aa;clear hl aa;go_wp2_with(fail);refine(lg s[k] _).mono ?_;rintro e ab ⟨rfl,rfl⟩;by_cases hd:bB s[k]=true
  .rw[hd];have ay:=ae hd;clear hd b1;go_wp2_with(fail)
   go_loop [8] (λe=>∃n:Nat,k+n<=s.size/\e=.int .i64 ((k:Int)+(n:Int))/\((s.data.toList.drop k).take n).all bB=true) (λe=>s.size+1 - (intOf e).toNat)
   case atStart=>exact⟨0,ad,by simp,by simp⟩
   case round=>
    obtain⟨n,hn,rfl,y⟩:=hrel;have HA:=ae y;clear y;have t1:((k:Int)+(n:Int)).toNat=k+n:=ad;have a6:(0:Int)<=(k:Int)+(n:Int):=ad;by_cases cH:k+n<s.size
    case' pos=>
     have cn:=av.o (k+n) cH #[.int .i64 0,.string ⟨#[]⟩,.int .i64 0,.int .i64 k] 141;have cU:(k:Int)+(n:Int)<(s.size:Int):=ad;go_wp2_with(fail);refine(lg s[k+n] _).mono ?_;rintro e ab ⟨rfl,rfl⟩;by_cases be:bB s[k+n]=true
     .rw[be];have co:=ae (pQ (p:=bB) cH HA.o be);clear be;go_wp2
      go_round
      case rel=>exact⟨n+1,ad,by simp;omega,co.o⟩
      case measure=>exact aE
     have D:bB s[k+n]=false:=by simpa using be
     rw[D];have aj:=ae (show 0<n from by
      rcases Nat.eq_zero_or_pos n with h0|h0
      .subst h0;simp only[LM] at D;rw[ay.o] at D;cases D
      .exact h0)
     have O:=ae (show ∀h:k+n<s.size,bB (s[k+n]'h)=false from λ_=>D);clear be D cn
    case' neg=>
     have cU:decide ((k:Int)+(n:Int)<(s.size:Int))=false:=by simp;omega
     have aj:=ae (show 0<n by omega);have O:=ae (show ∀h:k+n<s.size,bB (s[k+n]'h)=false from λh=>absurd h cH)
    all_goals
     have ai:0<n:=aj.o;have K:=ae (b2.FW.symm.trans (Es (f:=s.size - k) (acc:=acc) ap b2.skip az.o ay.o HA.o O.o));have s2:=λW=>g7 (b:=b) (o:=o) M ai hn W;go_wp2_with(fail);refine(wQ s b o cap k n (cap - k) _ (bW.on (Mg.alloc _)) hn HA.o).mono ?_;rintro e ab ⟨rfl,rfl⟩;clear s2;generalize oT ((s.data.toList.drop k).take n)=v at *;by_cases bG:v<0
     .have bj:=ae (K.trans (if_pos bG));have aK:decide (v<0)=true:=by simpa using bG
      clear K;go_wp2
      go_ret3
      exact kD.bad bj.o (b2.below.trans (((Below.refl _ _).alloc (Lz _) _).mono b2.below.size))
     have bj:=ae (K.trans (if_neg bG));have aK:decide (v<0)=false:=by simpa using bG
     clear K bG;go_upto_region 28 with(fail);generalize hX:World.alloc wr _=X;have r:tS wr X 2 v k:=by
      rw[<-hX];exact⟨(Below.refl _ _).alloc (Lz _) _,Mh,by simp⟩
     clear hX;have Q:=ae r;obtain⟨bU,aX,a4⟩:=r.blk.two;clear r;by_cases aU:acc.length=4000
     .have db:((acc.length:Int) == 4000)=true:=by simp;omega
      have U:(acc.length == 4000)=true:=by simp;omega
      have a2:=ae (bj.trans (if_pos aU));clear aU;go_wp2
      go_ret3
      exact xP
     have db:((acc.length:Int) == 4000)=false:=by simp;omega
     have U:(acc.length == 4000)=false:=by simp;omega
     have a2:=ae (bj.trans (if_neg aU));have R:=ae aU;clear aU;have G:fw X b o cap s:=bW.Gb Q.below;have cJ:=λW=>g7 (b:=b) (o:=o) M ai hn W;have c3:=ki G (k:=k) (n:=n) (cap - k) hn;have au:=ae G;clear G;go_upto_region 31 with(fail);generalize cq:World.setCell X _ _=Y;have u:Below wr.heap.size wr Y:=cq▸Q.below.setCell (p:=⟨wr.heap.size,1,none⟩) (Lz _) _;have ag:ao Y wr.heap.size 141 #[.int .i64 2,.string (s.extract k (k+n)),.int .i64 v,.int .i64 k]:=cq▸Q.blk.aJ 1 _;obtain⟨bv,V,af⟩:=ag.two;have x:=ae u;clear cq u ag bU aX a4 cJ c3;go_wp2_with((at_builtin;refine cy Y pS rfl (.tmp 119) (.tmp 121) rfl w.heap.size _ _ _ #[.int .i64 2,.string (s.extract k (k+n)),.int .i64 v,.int .i64 k] rfl (bR b2.own x.o) rfl rfl (by simp[Value.oneCell']) ad ad (LU b2.below.size x.size) ?_;intro v2 cA S an E;obtain⟨A2,c2,rfl,P,_⟩:=bH S));have aB:Below w.heap.size w cA:=dX (b2.below.trans (x.mono b2.below.size)) (bR b2.own x.o) an (Lz _) (LU b2.below.size x.size);have aw:=ah aB S;clear aB S an E bv V af;have g:=k4 s b o cap (k+n) cA (H.Gb aw.1) hn;rw[Int.natCast_add] at g;refine g.mono ?_;clear g;rintro e ab ⟨rfl,rfl⟩;obtain⟨F,b7,cK,cg,bP,cF⟩:=nc s (k+n) hn;rw[cF];have bM:=ah cg bP;clear cg bP cF;go_wp2;go_roundw
     case rel=>
      refine⟨F,acc++[⟨2,(s.data.toList.drop k).take n,v,(k:Int)⟩],rfl,b2.next (m:=k+n) ?_ R.o ad hn (b2.FW.trans a2.o) aw.1 b7 cK bM.1 bM.2⟩;exact sE
     case measure=>exact aE
  have C:bB s[k]=false:=by simpa using hd
  rw[C];have aF:=ae C;clear hd C b1;go_wp2_with(fail);refine(EX s b o cap k _ (bW.on (Mg.alloc _)) ap).mono ?_;rintro e aW ⟨rfl,bg⟩;have d:tS wr aW 0 0 k:=by
   have e1:Ext wr aW:=(Mg.alloc _).trans bg;have am:=(ao.new wr 141 #[.int .i64 0,.string ⟨#[]⟩,.int .i64 0,.int .i64 k]).aj bg;exact⟨Fr.ext e1,am,am.lt⟩
  clear bg;have N:=ae d;obtain⟨Z,aq,ar⟩:=d.blk.two;clear d;have K:=ae (b2.FW.symm.trans (y8 (f:=s.size - k) (acc:=acc) ap b2.skip az.o aF.o));have cu:=EW (s.data.toList.drop k) (by rw[da ap];simp);rw[mO] at cu;generalize fi (s.data.toList.drop k)=n at *;have hn:k+n<=s.size:=ad;by_cases aG:n=0
  .have bY:(((k:Int)+(n:Int)) == (k:Int))=true:=by simp;omega
   have bj:=ae (K.trans (if_pos aG));have cV:(n:Int)=0:=ad;subst aG;clear K bY cV;go_wp2
   go_ret3
   exact kD.bad bj.o (b2.below.trans ((N.below.setCell (p:=⟨wr.heap.size,0,none⟩) (Lz _) _).mono b2.below.size))
  have bY:(((k:Int)+(n:Int)) == (k:Int))=false:=by simp;omega
  have bj:=ae (K.trans (if_neg aG));have ai:0<n:=ad;clear K aG;go_upto_region 28 with(fail);generalize hX:World.setCell aW _ _=X;have r:tS wr X 4 0 k:=by
   exact zX
  clear hX Z aq ar;have Q:=ae r;obtain⟨bU,aX,a4⟩:=r.blk.two;clear r;by_cases aU:acc.length=4000
  .have db:((acc.length:Int) == 4000)=true:=by simp;omega
   have U:(acc.length == 4000)=true:=by simp;omega
   have a2:=ae (bj.trans (if_pos aU));clear aU;go_wp2
   go_ret3
   exact xP
  have db:((acc.length:Int) == 4000)=false:=by simp;omega
  have U:(acc.length == 4000)=false:=by simp;omega
  have a2:=ae (bj.trans (if_neg aU));have R:=ae aU;clear aU;have G:fw X b o cap s:=bW.Gb Q.below;have cJ:=λW=>g7 (b:=b) (o:=o) M ai hn W;have c3:=ki G (k:=k) (n:=n) (cap - k) hn;have au:=ae G;clear G;go_upto_region 31 with(fail);generalize cq:World.setCell X _ _=Y;have u:Below wr.heap.size wr Y:=cq▸Q.below.setCell (p:=⟨wr.heap.size,1,none⟩) (Lz _) _;have ag:ao Y wr.heap.size 141 #[.int .i64 4,.string (s.extract k (k+n)),.int .i64 0,.int .i64 k]:=cq▸Q.blk.aJ 1 _;obtain⟨bv,V,af⟩:=ag.two;have x:=ae u;clear cq u ag bU aX a4 cJ c3;go_wp2_with((at_builtin;refine cy Y pS rfl (.tmp 119) (.tmp 121) rfl w.heap.size _ _ _ #[.int .i64 4,.string (s.extract k (k+n)),.int .i64 0,.int .i64 k] rfl (bR b2.own x.o) rfl rfl (by simp[Value.oneCell']) ad ad (LU b2.below.size x.size) ?_;intro v2 cA S an E;obtain⟨A2,c2,rfl,P,_⟩:=bH S));have aB:Below w.heap.size w cA:=dX (b2.below.trans (x.mono b2.below.size)) (bR b2.own x.o) an (Lz _) (LU b2.below.size x.size);have aw:=ah aB S;clear aB S an E bv V af;have g:=k4 s b o cap (k+n) cA (H.Gb aw.1) hn;rw[Int.natCast_add] at g;refine g.mono ?_;clear g;rintro e ab ⟨rfl,rfl⟩;obtain⟨F,b7,cK,cg,bP,cF⟩:=nc s (k+n) hn;rw[cF];have bM:=ah cg bP;clear cg bP cF;go_wp2;go_roundw
  case rel=>
   refine⟨F,acc++[⟨4,(s.data.toList.drop k).take n,0,(k:Int)⟩],rfl,b2.next (m:=k+n) ?_ R.o ad hn (b2.FW.trans a2.o) aw.1 b7 cK bM.1 bM.2⟩;exact sE
  case measure=>exact aE
end Go.Proofs.YtflecliffjbleaaGreat
