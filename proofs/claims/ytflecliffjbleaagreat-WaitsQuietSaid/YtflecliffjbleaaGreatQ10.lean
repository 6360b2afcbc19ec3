/- Part 10 of the proof. No condition of its own. -/
import Derived.Test.YtflecliffjbleaaGreatQ06
namespace Go.Proofs.YtflecliffjbleaaGreat
open Go.RowKit Go.Proofs.Tryz
set_option maxRecDepth 1000000
set_option maxHeartbeats 25600000
set_option linter.unusedVariables false
variable{s:ByteArray}{d:Int}{acc:List Tok}{b cap f k n o:Nat}{p:UInt8->Bool}{ac w:World}
theorem uw{x:UInt8}(h:(x.toNat:Int)=d+48)(v:Int)(l:List UInt8):iF v (x::l)=if (9223372036854775807 - d) / 10<v then -1 else iF (10*v+d) l:=by
 simp only[iF];rw[h,show d+48 - 48=d by omega]
theorem y0{v:Int}(h:v<=(9223372036854775807 - d) / 10)(hd:0<=d/\d<=9)(bD:0<=v):0<=10*v+d/\10*v+d<=9223372036854775807:=ab
theorem wD(s:ByteArray)(b o cap k n c:Nat)(w:World)(h:fb w b o cap s)(ai:k+n<=s.size)(hd:((s.data.toList.drop k).take n).all br=true) :
  Calls prog 104 #[.slice (some ⟨b,o+k,none⟩) n c] w λe ac=>e=.returned (.int .i64 (nH ((s.data.toList.drop k).take n)))/\w=ac:=by
 have H:=ad h;have U:=h.small;have cJ:=ad hd;clear h hd;go_enter func104,ntmps104;go_wp2
 go_loop [3,4] (λa i=>∃(j:Nat) (v:Int),j<=n/\0<=v/\v<=9223372036854775807/\a=.int .i64 v/\i=.int .i64 j/\iF v (((s.data.toList.drop k).take n).drop j)=nH ((s.data.toList.drop k).take n)) (λ_ i=>n - (intOf i).toNat)
 case atStart=>exact⟨0,0,Lx _,ab,ab,rfl,rfl,rfl⟩
 case round=>
  obtain⟨j,v,bd,r,d5,rfl,rfl,g⟩:=hrel;have t:=ad g;clear g;by_cases aw:j<n
  .have hc:=H.byte (k:=k+j) ab;rw[<-Nat.add_assoc] at hc;have f:((s.data.toList.drop k).take n)[j]?=some s[k+j]:=by
    rw[List.getElem?_take_of_lt aw,List.getElem?_drop];exact byte_at ab
   have m:br s[k+j]=true:=List.all_eq_true.1 cJ.o _ (Le f);have q:48<=s[k+j].toNat/\s[k+j].toNat<=57:=by simpa[br] using m
   have bD:((s.data.toList.drop k).take n).drop j=s[k+j]::((s.data.toList.drop k).take n).drop (j+1):=by
    have hl:=(List.getElem?_eq_some_iff.1 f)
    rw[List.drop_eq_getElem_cons hl.1,hl.2]
   have aR:=ad (t.symm.trans (congrArg (iF v) bD));clear f m bD;generalize s[k+j]=x at *;obtain⟨d,l⟩:∃d:Int,(x.toNat:Int)=d+48:=⟨(x.toNat:Int) - 48,ab⟩
   rw[l] at hc;have S:=ad l;have d0:0<=d:=ab;have d1:d<=9:=ab;clear l q;by_cases bm:(9223372036854775807 - d) / 10<v
   .have aZ:=ad (aR.trans ((uw S.o v _).trans (if_pos bm)));go_wp2;go_ret;exact⟨ret_int aZ.symm,rfl⟩
   .have aZ:=ad (aR.trans ((uw S.o v _).trans (if_neg bm)));have bx:=ad (y0 ab ⟨d0,d1⟩ r);go_wp2
    go_round
    case rel=>exact⟨j+1,10*v+d,ab,bx.1,bx.2,rfl,by go_num,aZ.symm⟩
    case measure=>exact az
  .have Q:j=n:=ab;have aZ:=ad (show v=nH ((s.data.toList.drop k).take n) by
    rw[<-t.o,Q,LH (by simp;omega)];rfl)
   clear Q;go_wp2;go_ret;exact⟨ret_int aZ.o,rfl⟩
def rm(t:Tok):List Value:=[.int .i64 t.kind,.string (strOf t.text),.int .i64 t.num,.int .i64 t.pos]
theorem DE(l:List Tok):∀x∈l,(rm x).length=4:=λ_ _=>rfl
theorem lO(l:List Tok)(x:Tok):(l++[x]).flatMap rm=l.flatMap rm++rm x:=by
 rw[List.flatMap_append];simp
theorem pJ:ca prog 118 141 (.agg #[.int .i64 0,.string ⟨#[]⟩,.int .i64 0,.int .i64 0]) 4 40:=ca.mk' Tryz.underlying118 (by kernel_rfl) rfl ab
theorem fb.Fo(h:fb w b o cap s)(O:Below w.heap.size w ac):fb ac b o cap s:=h.on (Fr.of O)
def kv(w:World)(r:List Tok×Int×Int)(e:Ending)(ac:World):Prop:=
 ∃A n c,e=.returned (.tuple #[.slice A n c,.int .i64 r.2.1,.int .i64 r.2.2])/\n<=c/\cK (EF rm) 4 ac ac.heap.size A n r.1/\Below w.heap.size w ac
theorem kv.bad{p q:Int}{r:List Tok×Int×Int}(aQ:r=([],p,q))(O:Below w.heap.size w ac):kv w r (.returned (.tuple #[.slice none 0 0,.int .i64 p,.int .i64 q])) ac:=by
 subst aQ;exact⟨none,0,0,rfl,Lb _,cK.bN _,O⟩
structure tH(w wr:World)(s:ByteArray)(k:Nat)(acc:List Tok)(out:Value):Prop where
 own:wr.ownsRow w.heap.size 141 4 out acc.length (acc.flatMap rm)
 iT:acc.length<=4000
 le:k<=s.size
 skip:aR false (s.data.toList.drop k)=s.data.toList.drop k
 Fa:fq (s.size - k+1) s.size (s.data.toList.drop k) acc=dH s.data.toList
 below:Below w.heap.size w wr
theorem mN(s:ByteArray)(k:Nat):(s.data.toList.drop k).length=s.size - k:=by simp
theorem g9:∀(b:Bool) (l:List UInt8),∃n,aR b l=l.drop n/\n<=l.length
 | b,[]=>⟨0,by cases b<;>rfl,Lb _⟩
 | true,c::l=>by
  by_cases h:c=10
  .obtain⟨n,ae,aD⟩:=g9 false l;exact⟨n+1,by rw[aR,if_pos h,ae];rfl,by simp;omega⟩
  .obtain⟨n,ae,aD⟩:=g9 true l
   exact⟨n+1,by rw[aR,if_neg h,ae];rfl,by simp;omega⟩
 | false,c::l=>by
  by_cases h:oM c=true
  .obtain⟨n,ae,aD⟩:=g9 false l;exact⟨n+1,by rw[aR,if_pos h,ae];rfl,by simp;omega⟩
  .by_cases aD:c=47/\l.head?=some 47
   .obtain⟨n,ae,aU⟩:=g9 true l;exact⟨n+1,by rw[aR,if_neg h,if_pos aD,ae];rfl,by simp;omega⟩
   .exact⟨0,by rw[aR,if_neg h,if_neg aD];rfl,by simp⟩
theorem ie:∀(b:Bool) (l:List UInt8),aR false (aR b l)=aR b l
 | b,[]=>by cases b<;>rfl
 | true,c::l=>by
  rw[aR];split
  .exact ie false l
  .exact ie true l
 | false,c::l=>by
  by_cases h:oM c=true
  .rw[lB h];exact ie false l
  .by_cases aD:c=47/\l.head?=some 47
   .have e:aR false (c::l)=aR true l:=by rw[aR,if_neg h,if_pos aD]
    rw[e];exact ie true l
   .have e:aR false (c::l)=c::l:=by rw[aR,if_neg h,if_neg aD]
    rw[e,e]
theorem nc(s:ByteArray)(m:Nat)(hm:m<=s.size):∃k,m<=k/\k<=s.size/\aR false (s.data.toList.drop m)=s.data.toList.drop k/\aR false (s.data.toList.drop k)=s.data.toList.drop k/\(s.size:Int) - (aR false (s.data.toList.drop m)).length=k:=by
 obtain⟨n,ae,aD⟩:=g9 false (s.data.toList.drop m);have hl:(s.data.toList.drop m).length=s.size - m:=by simp
 refine⟨m+n,ab,ab,?_,?_,?_⟩
 .rw[ae,List.drop_drop]
 .rw[<-List.drop_drop,<-ae];exact ie _ _
 .rw[ae,List.length_drop,hl];omega
theorem r0(f n:Nat)(l:List UInt8)(acc:List Tok):fq f n l acc=fq f n (aR false l) acc:=by
 cases f with
 | zero=>rfl
 | succ f=>unfold fq;rw[ie]
theorem lv:∀(f g n:Nat) (l:List UInt8) (acc:List Tok),l.length<f->l.length<g->fq f n l acc=fq g n l acc
 | 0,g,n,l,acc,h,_=>ab
 | f+1,0,n,l,acc,_,h=>ab
 | f+1,g+1,n,l,acc,J,aK=>by
  unfold fq;have hs:=jK false l
  cases ai:aR false l with
  | nil=>rfl
  | cons c r=>
   rw[ai] at hs;simp only[Lo] at hs;have e1:∀p:UInt8->Bool,p c=true->((c::r).dropWhile p).length<f/\((c::r).dropWhile p).length<g:=λp hp=>by
    have:((c::r).dropWhile p).length<=r.length:=by
     rw[List.dropWhile_cons,if_pos hp];have:=(List.dropWhile_sublist p (l:=r)).length_le;exact this
    omega
   have e2:∀k,k≠0->((c::r).drop k).length<f/\((c::r).drop k).length<g:=λk ai=>by
    simp only[List.length_drop,Lo];omega
   simp only[];by_cases hl:bM c=true
   .simp only[hl,if_true];have z:b1 c=true:=by simp[b1,hl]
    rw[lv f g n _ _ (e1 _ z).1 (e1 _ z).2]
   .simp only[hl,LJ,if_false];by_cases hd:br c=true
    .simp only[hd,if_true];rw[lv f g n _ _ (e1 _ hd).1 (e1 _ hd).2]
    .simp only[hd,LJ,if_false];by_cases ba:eV (c::r)=0
     .simp only[ba,if_true]
     .simp only[ba,if_false];rw[lv f g n _ _ (e2 _ ba).1 (e2 _ ba).2]
theorem tH.next{wr b:World}{m F:Nat}{out a:Value}{t:Tok}(h:tH w wr s k acc out)
  (ax:b.ownsRow w.heap.size 141 4 a (acc.length+1) (acc.flatMap rm++rm t)) (hn:acc.length≠4000) (H:k<m) (hm:m<=s.size)
  (he:fq (s.size - k+1) s.size (s.data.toList.drop k) acc=fq (s.size - k) s.size (s.data.toList.drop m) (acc++[t])) (O:Below w.heap.size w b)
  (ci:m<=F) (co:F<=s.size) (b6:aR false (s.data.toList.drop m)=s.data.toList.drop F) (bv:aR false (s.data.toList.drop F)=s.data.toList.drop F):tH w b s F (acc++[t]) a:=by
 have J:=h.iT;refine⟨by rw[lO,Ld];exact ax,by simp;omega,co,bv,?_,O⟩;rw[<-h.Fa,he,r0 (s.size - k),b6];exact z2
theorem wq(s:ByteArray)(hs:s.size<=262144)(ae:aR false (s.data.toList.drop 0)=s.data.toList.drop k):fq (s.size - k+1) s.size (s.data.toList.drop k) []=dH s.data.toList:=by
 have hl:s.data.toList.length=s.size:=by simp
 have g:aR false s.data.toList=s.data.toList.drop k:=by simpa using ae
 unfold dH;rw[hl,if_neg ab,r0 (s.size+1),g];exact z2
theorem DF(f n:Nat)(acc:List Tok):fq (f+1) n [] acc=(acc++[⟨5,[],0,(n:Int)⟩],(n:Int),0):=by simp[fq,aR]
theorem uX:s.data.toList.drop k=(s.data.toList.drop k).take n++s.data.toList.drop (k+n):=by
 rw[<-List.drop_drop,List.take_append_drop]
theorem r5(h:∀hl:k+n<s.size,p (s[k+n]'hl)=false):∀c,(s.data.toList.drop (k+n)).head?=some c->p c=false:=by
 intro c hc;by_cases hl:k+n<s.size
 .rw[c6 hl] at hc;simp at hc;subst hc;exact h hl
 .rw[LH (by simp;omega)] at hc;cases hc
theorem s6(h:k<s.size):((s.size:Nat):Int) - ((s.data.toList.drop (k+1)).length+1)=(k:Int):=by rw[mN];omega
theorem yQ(ai:k<s.size)(g:aR false (s.data.toList.drop k)=s.data.toList.drop k)(hl:bM s[k]=true)(aI:((s.data.toList.drop k).take n).all b1=true)
  (r:∀h:k+n<s.size,b1 (s[k+n]'h)=false) :
  fq (f+1) s.size (s.data.toList.drop k) acc=if (!cn ((s.data.toList.drop k).take n) && decide (16<((s.data.toList.drop k).take n).length))=true then ([],(k:Int),3)
   else if acc.length=4000 then ([],(k:Int),3) else fq f s.size (s.data.toList.drop (k+n)) (acc++[⟨if cn ((s.data.toList.drop k).take n) then 3 else 1,(s.data.toList.drop k).take n,0,(k:Int)⟩]):=by
 have e:=gV aI (r5 r);rw[<-uX] at e;rw[fq,g];rw[c6 ai] at e ⊢;simp only[hl,if_true,e.1,e.2,s6 ai]
theorem DG(ai:k<s.size)(g:aR false (s.data.toList.drop k)=s.data.toList.drop k)(hl:bM s[k]=false)(hd:br s[k]=true)(aI:((s.data.toList.drop k).take n).all br=true)
  (r:∀h:k+n<s.size,br (s[k+n]'h)=false) :
  fq (f+1) s.size (s.data.toList.drop k) acc=if nH ((s.data.toList.drop k).take n)<0 then ([],(k:Int),2)
   else if acc.length=4000 then ([],(k:Int),3) else fq f s.size (s.data.toList.drop (k+n)) (acc++[⟨2,(s.data.toList.drop k).take n,nH ((s.data.toList.drop k).take n),(k:Int)⟩]):=by
 have e:=gV aI (r5 r);rw[<-uX] at e;rw[fq,g];rw[c6 ai] at e ⊢;simp only[hl,hd,LJ,if_false,if_true,e.1,e.2,s6 ai]
theorem yP(ai:k<s.size)(g:aR false (s.data.toList.drop k)=s.data.toList.drop k)(hl:bM s[k]=false)(hd:br s[k]=false):
  fq (f+1) s.size (s.data.toList.drop k) acc=if eV (s.data.toList.drop k)=0 then ([],(k:Int),1)
   else if acc.length=4000 then ([],(k:Int),3) else fq f s.size (s.data.toList.drop (k+eV (s.data.toList.drop k))) (acc++[⟨4,(s.data.toList.drop k).take (eV (s.data.toList.drop k)),0,(k:Int)⟩]):=by
 have aD:s.data.toList.drop (k+eV (s.data.toList.drop k))=(s.data.toList.drop k).drop (eV (s.data.toList.drop k)):=by rw[List.drop_drop]
 rw[aD,fq,g];rw[c6 ai];simp only[hl,hd,LJ,if_false,s6 ai]
theorem D9(l:List UInt8)(h:l≠[]):eV l<=l.length:=by
 unfold eV
 have:1<=l.length:=by cases l with
  | nil=>exact absurd rfl h
  | cons=>simp
 split
 .rename_i aH;simp only[Ln,LI] at aH;exact aH.2
 .split<;>omega
theorem pH(hl:k+n<s.size)(h:((s.data.toList.drop k).take n).all p=true)(hp:p (s[k+n]'hl)=true):((s.data.toList.drop k).take (n+1)).all p=true:=by
 have aK:(s.data.toList.drop k)[n]?=some (s[k+n]'hl):=by rw[List.getElem?_drop];exact byte_at hl
 rw[a1 aK,List.all_append,h];simp[hp]
theorem gP(hc:s.size<=cap)(hn:0<n)(ai:k+n<=s.size)(W:World):
  (Instr.slice 78 (.slice (some ⟨b,o,none⟩) s.size cap) (some (.int .i64 (k:Int))) (some (.int .i64 ((k:Int)+(n:Int)))) none).run prog W=.ok (.slice (some ⟨b,o+k,none⟩) n (cap - k)) W:=nV hc hn ai W
theorem ry(s:ByteArray)(k n:Nat):strOf ((s.data.toList.drop k).take n)=s.extract k (k+n):=by rw[<-ga,w7]
structure tK(wr X:World)(kind num:Int)(k:Nat):Prop where
 below:Below wr.heap.size wr X
 blk:an X wr.heap.size 141 #[.int .i64 kind,.string ⟨#[]⟩,.int .i64 num,.int .i64 k]
 lt:wr.heap.size<X.heap.size
theorem x0(s:ByteArray)(b o cap:Nat)(w:World)(h:fb w b o cap s)(hs:s.size<=262144) :
  Calls prog 58 #[.slice (some ⟨b,o,none⟩) s.size cap] w (kv w (dH s.data.toList)):=by
 have H:=ad h;have K:=h.fit;clear h;go_enter func58,ntmps58;go_wp2_with(fail);refine(show Calls prog 100 #[.slice (some ⟨b,o,none⟩) s.size cap,.int .i64 0] _ _ from kZ s b o cap 0 _ H.o (Lx _)).mono ?_;rintro e ac ⟨rfl,rfl⟩;obtain⟨cE,_,bw,ae,aD,aU⟩:=nc s 0 (Lx _);rw[aU];have aK:=ad (show tH w w s cE [] (.slice none 0 0) from ⟨⟨by simp,.inl ⟨rfl,rfl⟩⟩,by simp,bw,aD,wq s hs ae,Below.refl _ _⟩);clear ae aD aU;go_wp2_with(fail);go_loopw [5,6] (λout i wr=>∃(k:Nat) (acc:List Tok),i=.int .i64 k/\tH w wr s k acc out) (λ_ i _=>s.size+1 - (intOf i).toNat)
 case atStart=>exact⟨cE,[],rfl,aK.o⟩
 case round=>
  obtain⟨k,acc,rfl,bo⟩:=hrel;have bN:=ad bo;clear aK bw;obtain⟨A,c,aF,cj,_,_,_⟩:=bx bo.own;subst aF;have M:=bo.iT;have hle:=bo.le;clear bo;by_cases aw:k<s.size
  case neg=>
   have b3:k=s.size:=ab;have q:((k:Int) == (s.size:Int))=true:=by simp;omega
   have aZ:=ad (show dH s.data.toList=(acc++[⟨5,[],0,(s.size:Int)⟩],(s.size:Int),0) by
    rw[<-bN.Fa,b3,LH (by simp)];exact DF _ _ _)
   subst b3;go_wp2_with((at_builtin;refine bV wr pJ rfl (.tmp 21) (.tmp 24) rfl w.heap.size _ _ _ #[.int .i64 5,.string ⟨#[]⟩,.int .i64 0,.int .i64 s.size] rfl bN.own rfl rfl (by simp[Value.oneCell']) ab ab bN.below.size ?_;intro v2 aV af al E;obtain⟨A2,c2,rfl,O,_⟩:=bx af))
   go_ret3
   rw[aZ.o];refine⟨A2,acc.length+1,c2,rfl,O,g6 (l:=acc++[⟨5,[],0,(s.size:Int)⟩]) (by rw[lO];exact af) (DE _) (by simp),?_⟩;exact dk bN.below bN.own al (Lb _) bN.below.size
  have q:((k:Int) == (s.size:Int))=false:=by simp;omega
  have hc:=H.Fo bN.below;have aJ:=hc.byte aw;have aL:=hc.lt;have S:∀(j:Nat) (bd:j<s.size) (cs:Array Value) (t:TypeId),(wr.alloc (.cells cs t)).cell? ⟨b,o+j,none⟩=some (.int .u8 (s[j].toNat:Int)):=λj bd cs t=>(hc.on (LL.alloc _)).byte bd;obtain⟨bQ,ay⟩:=aM hc S;have cu:=S k aw #[.int .i64 0,.string ⟨#[]⟩,.int .i64 0,.int .i64 k] 141;clear hc S;go_wp2_with(fail);refine(mj s[k] _).mono ?_;rintro e ac ⟨rfl,rfl⟩;by_cases hl:bM s[k]=true
  .rw[hl];have aE:=ad hl;clear hl cu;go_wp2_with(fail)
   go_loop [8] (λe=>∃n:Nat,k+n<=s.size/\e=.int .i64 ((k:Int)+(n:Int))/\((s.data.toList.drop k).take n).all b1=true) (λe=>s.size+1 - (intOf e).toNat)
   case atStart=>exact⟨0,ab,by simp,by simp⟩
   case round=>
    obtain⟨n,hn,rfl,aI⟩:=hrel;have HA:=ad aI;clear aI;have t1:((k:Int)+(n:Int)).toNat=k+n:=ab;have aY:(0:Int)<=(k:Int)+(n:Int):=ab;by_cases cl:k+n<s.size
    case' pos=>
     have cr:=ay.o (k+n) cl #[.int .i64 0,.string ⟨#[]⟩,.int .i64 0,.int .i64 k] 141;have R:(k:Int)+(n:Int)<(s.size:Int):=ab;go_wp2_with(fail);refine(mj s[k+n] _).mono ?_;rintro e ac ⟨rfl,rfl⟩;by_cases I:bM s[k+n]=true
     .rw[I];have bA:=ad (pH (p:=b1) cl HA.o (by simp[b1,I]));clear I;go_wp2
      go_round
      case rel=>exact⟨n+1,ab,by simp;omega,bA.o⟩
      case measure=>exact az
     have am:bM s[k+n]=false:=by simpa using I
     rw[am];have U:=ad am;clear I am;go_wp2_with(fail);refine(k9 s[k+n] _).mono ?_;rintro e ac ⟨rfl,rfl⟩;by_cases bK:br s[k+n]=true
     .rw[bK];have bA:=ad (pH (p:=b1) cl HA.o (by simp[b1,bK]));clear bK;go_wp2
      go_round
      case rel=>exact⟨n+1,ab,by simp;omega,bA.o⟩
      case measure=>exact az
     have C:br s[k+n]=false:=by simpa using bK
     rw[C];have z:b1 s[k+n]=false:=by simp[b1,U.o,C]
     have ak:=ad (show 0<n from by
      rcases Nat.eq_zero_or_pos n with h0|h0
      .subst h0;have:=U.o;simp only[Ll] at this;rw[aE.o] at this;cases this
      .exact h0)
     have N:=ad (show ∀h:k+n<s.size,b1 (s[k+n]'h)=false from λ_=>z);clear bK C z cr
    case' neg=>
     have R:decide ((k:Int)+(n:Int)<(s.size:Int))=false:=by simp;omega
     have ak:=ad (show 0<n by omega);have N:=ad (show ∀h:k+n<s.size,b1 (s[k+n]'h)=false from λh=>absurd h cl)
    all_goals
     have cv:0<n:=ak.o;have y:=ad (bN.Fa.symm.trans (yQ (f:=s.size - k) (acc:=acc) aw bN.skip aE.o HA.o N.o));have s2:=λW=>gP (b:=b) (o:=o) K cv hn W;have c2:=λ(cs:Array Value) (t:TypeId)=>kb (bQ.on (LL.alloc (.cells cs t))) (k:=k) (n:=n) (cap - k) hn;go_wp2_with(fail);refine(m9 (s.extract k (k+n)) _).mono ?_;rintro e aV ⟨rfl,a9⟩;clear s2 c2;have d:tK wr aV 1 0 k:=by
      have e1:Ext wr aV:=(LL.alloc _).trans a9;have ao:=(an.new wr 141 #[.int .i64 1,.string ⟨#[]⟩,.int .i64 0,.int .i64 k]).aj a9;exact⟨Fr.ext e1,ao,ao.lt⟩
     clear a9;have Q:=ad d;obtain⟨Z,aq,ar⟩:=d.blk.two;clear d;have aG:ib (s.extract k (k+n))=cn ((s.data.toList.drop k).take n):=by unfold ib;rw[ga]
     rw[aG];clear aG;have hlen:((s.data.toList.drop k).take n).length=n:=by simp;omega
     by_cases aQ:cn ((s.data.toList.drop k).take n)=true
     .rw[aQ] at y ⊢;have a8:=ad (y.o);clear aQ hlen y;simp only[Bool.not_true,Bool.false_and,LJ,if_false,if_true] at a8;go_upto_region 28 with(fail);generalize hX:World.setCell aV _ _=X;have r:tK wr X 3 0 k:=by
       exact zD
      clear hX Z aq ar;have L:=ad r;obtain⟨bs,a7,bS⟩:=r.blk.two;clear r;by_cases a1:acc.length=4000
      .have cO:((acc.length:Int) == 4000)=true:=by simp;omega
       have T:(acc.length == 4000)=true:=by simp;omega
       have aZ:=ad (a8.trans (if_pos a1));clear a1;go_wp2
       go_ret3
       exact xD
      have cO:((acc.length:Int) == 4000)=false:=by simp;omega
      have T:(acc.length == 4000)=false:=by simp;omega
      have aZ:=ad (a8.trans (if_neg a1));have P:=ad a1;clear a1;have D:fb X b o cap s:=bQ.Fo L.below;have ai:=λW=>gP (b:=b) (o:=o) K cv hn W;have c3:=kb D (k:=k) (n:=n) (cap - k) hn;have au:=ad D;clear D;go_upto_region 31 with(fail);generalize b7:World.setCell X _ _=Y;have u:Below wr.heap.size wr Y:=b7▸L.below.setCell (p:=⟨wr.heap.size,1,none⟩) (Lb _) _;have aj:an Y wr.heap.size 141 #[.int .i64 3,.string (s.extract k (k+n)),.int .i64 0,.int .i64 k]:=b7▸L.blk.aD 1 _;obtain⟨aa,V,ag⟩:=aj.two;have x:=ad u;clear b7 u aj bs a7 bS ai c3;go_wp2_with((at_builtin;refine bV Y pJ rfl (.tmp 119) (.tmp 121) rfl w.heap.size _ _ _ #[.int .i64 3,.string (s.extract k (k+n)),.int .i64 0,.int .i64 k] rfl (bT bN.own x.o) rfl rfl (by simp[Value.oneCell']) ab ab (Ls bN.below.size x.size) ?_;intro v2 b5 af al E;obtain⟨A2,c2,rfl,O,_⟩:=bx af));have aC:Below w.heap.size w b5:=dk (bN.below.trans (x.mono bN.below.size)) (bT bN.own x.o) al (Lb _) (Ls bN.below.size x.size);have av:=ah aC af;clear aC af al E aa V ag;have g:=kZ s b o cap (k+n) b5 (H.Fo av.1) hn;rw[Int.natCast_add] at g;refine g.mono ?_;clear g;rintro e ac ⟨rfl,rfl⟩;obtain⟨F,ci,co,b6,bv,cC⟩:=nc s (k+n) hn;rw[cC];have bB:=ah b6 bv;clear b6 bv cC;go_wp2;go_roundw
      case rel=>
       refine⟨F,acc++[⟨3,(s.data.toList.drop k).take n,0,(k:Int)⟩],rfl,bN.next (m:=k+n) ?_ P.o ab hn (bN.Fa.trans aZ.o) av.1 ci co bB.1 bB.2⟩;exact sw
      case measure=>exact az
     have J:cn ((s.data.toList.drop k).take n)=false:=by simpa using aQ
     rw[J] at y ⊢;by_cases ap:16<n
     .have a8:=ad (y.trans (if_pos (by rw[hlen];simp[ap])));clear aQ J hlen;go_wp2
      go_ret3
      exact kv.bad a8.o (bN.below.trans (Q.below.mono bN.below.size))
     have a8:=ad (y.trans (if_neg (by rw[hlen];simp[ap])));simp only[LJ,if_false] at a8;clear aQ J hlen y;go_upto_region 28 with(fail);have X:World:=aV;clear X;generalize aV=X at *;have r:=Q.o;clear Z aq ar;have L:=ad r;obtain⟨bs,a7,bS⟩:=r.blk.two;clear r;by_cases a1:acc.length=4000
     .have cO:((acc.length:Int) == 4000)=true:=by simp;omega
      have T:(acc.length == 4000)=true:=by simp;omega
      have aZ:=ad (a8.trans (if_pos a1));clear a1;go_wp2
      go_ret3
      exact xD
     have cO:((acc.length:Int) == 4000)=false:=by simp;omega
     have T:(acc.length == 4000)=false:=by simp;omega
     have aZ:=ad (a8.trans (if_neg a1));have P:=ad a1;clear a1;have D:fb X b o cap s:=bQ.Fo L.below;have ai:=λW=>gP (b:=b) (o:=o) K cv hn W;have c3:=kb D (k:=k) (n:=n) (cap - k) hn;have au:=ad D;clear D;go_upto_region 31 with(fail);generalize b7:World.setCell X _ _=Y;have u:Below wr.heap.size wr Y:=b7▸L.below.setCell (p:=⟨wr.heap.size,1,none⟩) (Lb _) _;have aj:an Y wr.heap.size 141 #[.int .i64 1,.string (s.extract k (k+n)),.int .i64 0,.int .i64 k]:=b7▸L.blk.aD 1 _;obtain⟨aa,V,ag⟩:=aj.two;have x:=ad u;clear b7 u aj bs a7 bS ai c3;go_wp2_with((at_builtin;refine bV Y pJ rfl (.tmp 119) (.tmp 121) rfl w.heap.size _ _ _ #[.int .i64 1,.string (s.extract k (k+n)),.int .i64 0,.int .i64 k] rfl (bT bN.own x.o) rfl rfl (by simp[Value.oneCell']) ab ab (Ls bN.below.size x.size) ?_;intro v2 b5 af al E;obtain⟨A2,c2,rfl,O,_⟩:=bx af));have aC:Below w.heap.size w b5:=dk (bN.below.trans (x.mono bN.below.size)) (bT bN.own x.o) al (Lb _) (Ls bN.below.size x.size);have av:=ah aC af;clear aC af al E aa V ag;have g:=kZ s b o cap (k+n) b5 (H.Fo av.1) hn;rw[Int.natCast_add] at g;refine g.mono ?_;clear g;rintro e ac ⟨rfl,rfl⟩;obtain⟨F,ci,co,b6,bv,cC⟩:=nc s (k+n) hn;rw[cC];have bB:=ah b6 bv;clear b6 bv cC;go_wp2;go_roundw
     case rel=>
      refine⟨F,acc++[⟨1,(s.data.toList.drop k).take n,0,(k:Int)⟩],rfl,bN.next (m:=k+n) ?_ P.o ab hn (bN.Fa.trans aZ.o) av.1 ci co bB.1 bB.2⟩;exact sw
     case measure=>exact az
  have ax:bM s[k]=false:=by simpa using hl
  rw[ax];have aB:=ad ax;clear hl ax;go_wp2_with(fail);refine(k9 s[k] _).mono ?_;rintro e ac ⟨rfl,rfl⟩;by_cases hd:br s[k]=true
  .rw[hd];have aA:=ad hd;clear hd cu;go_wp2_with(fail)
   go_loop [8] (λe=>∃n:Nat,k+n<=s.size/\e=.int .i64 ((k:Int)+(n:Int))/\((s.data.toList.drop k).take n).all br=true) (λe=>s.size+1 - (intOf e).toNat)
   case atStart=>exact⟨0,ab,by simp,by simp⟩
   case round=>
    obtain⟨n,hn,rfl,aI⟩:=hrel;have HA:=ad aI;clear aI;have t1:((k:Int)+(n:Int)).toNat=k+n:=ab;have aY:(0:Int)<=(k:Int)+(n:Int):=ab;by_cases cl:k+n<s.size
    case' pos=>
     have cr:=ay.o (k+n) cl #[.int .i64 0,.string ⟨#[]⟩,.int .i64 0,.int .i64 k] 141;have R:(k:Int)+(n:Int)<(s.size:Int):=ab;go_wp2_with(fail);refine(k9 s[k+n] _).mono ?_;rintro e ac ⟨rfl,rfl⟩;by_cases bK:br s[k+n]=true
     .rw[bK];have bA:=ad (pH (p:=br) cl HA.o bK);clear bK;go_wp2
      go_round
      case rel=>exact⟨n+1,ab,by simp;omega,bA.o⟩
      case measure=>exact az
     have C:br s[k+n]=false:=by simpa using bK
     rw[C];have ak:=ad (show 0<n from by
      rcases Nat.eq_zero_or_pos n with h0|h0
      .subst h0;simp only[Ll] at C;rw[aA.o] at C;cases C
      .exact h0)
     have N:=ad (show ∀h:k+n<s.size,br (s[k+n]'h)=false from λ_=>C);clear bK C cr
    case' neg=>
     have R:decide ((k:Int)+(n:Int)<(s.size:Int))=false:=by simp;omega
     have ak:=ad (show 0<n by omega);have N:=ad (show ∀h:k+n<s.size,br (s[k+n]'h)=false from λh=>absurd h cl)
    all_goals
     have cv:0<n:=ak.o;have y:=ad (bN.Fa.symm.trans (DG (f:=s.size - k) (acc:=acc) aw bN.skip aB.o aA.o HA.o N.o));have s2:=λW=>gP (b:=b) (o:=o) K cv hn W;go_wp2_with(fail);refine(wD s b o cap k n (cap - k) _ (bQ.on (LL.alloc _)) hn HA.o).mono ?_;rintro e ac ⟨rfl,rfl⟩;clear s2;generalize nH ((s.data.toList.drop k).take n)=v at *;by_cases bD:v<0
     .have a8:=ad (y.trans (if_pos bD));have aN:decide (v<0)=true:=by simpa using bD
      clear y;go_wp2
      go_ret3
      exact kv.bad a8.o (bN.below.trans (((Below.refl _ _).alloc (Lb _) _).mono bN.below.size))
     have a8:=ad (y.trans (if_neg bD));have aN:decide (v<0)=false:=by simpa using bD
     clear y bD;go_upto_region 28 with(fail);generalize hX:World.alloc wr _=X;have r:tK wr X 2 v k:=by
      rw[<-hX];exact⟨(Below.refl _ _).alloc (Lb _) _,LM,by simp⟩
     clear hX;have L:=ad r;obtain⟨bs,a7,bS⟩:=r.blk.two;clear r;by_cases a1:acc.length=4000
     .have cO:((acc.length:Int) == 4000)=true:=by simp;omega
      have T:(acc.length == 4000)=true:=by simp;omega
      have aZ:=ad (a8.trans (if_pos a1));clear a1;go_wp2
      go_ret3
      exact xD
     have cO:((acc.length:Int) == 4000)=false:=by simp;omega
     have T:(acc.length == 4000)=false:=by simp;omega
     have aZ:=ad (a8.trans (if_neg a1));have P:=ad a1;clear a1;have D:fb X b o cap s:=bQ.Fo L.below;have ai:=λW=>gP (b:=b) (o:=o) K cv hn W;have c3:=kb D (k:=k) (n:=n) (cap - k) hn;have au:=ad D;clear D;go_upto_region 31 with(fail);generalize b7:World.setCell X _ _=Y;have u:Below wr.heap.size wr Y:=b7▸L.below.setCell (p:=⟨wr.heap.size,1,none⟩) (Lb _) _;have aj:an Y wr.heap.size 141 #[.int .i64 2,.string (s.extract k (k+n)),.int .i64 v,.int .i64 k]:=b7▸L.blk.aD 1 _;obtain⟨aa,V,ag⟩:=aj.two;have x:=ad u;clear b7 u aj bs a7 bS ai c3;go_wp2_with((at_builtin;refine bV Y pJ rfl (.tmp 119) (.tmp 121) rfl w.heap.size _ _ _ #[.int .i64 2,.string (s.extract k (k+n)),.int .i64 v,.int .i64 k] rfl (bT bN.own x.o) rfl rfl (by simp[Value.oneCell']) ab ab (Ls bN.below.size x.size) ?_;intro v2 b5 af al E;obtain⟨A2,c2,rfl,O,_⟩:=bx af));have aC:Below w.heap.size w b5:=dk (bN.below.trans (x.mono bN.below.size)) (bT bN.own x.o) al (Lb _) (Ls bN.below.size x.size);have av:=ah aC af;clear aC af al E aa V ag;have g:=kZ s b o cap (k+n) b5 (H.Fo av.1) hn;rw[Int.natCast_add] at g;refine g.mono ?_;clear g;rintro e ac ⟨rfl,rfl⟩;obtain⟨F,ci,co,b6,bv,cC⟩:=nc s (k+n) hn;rw[cC];have bB:=ah b6 bv;clear b6 bv cC;go_wp2;go_roundw
     case rel=>
      refine⟨F,acc++[⟨2,(s.data.toList.drop k).take n,v,(k:Int)⟩],rfl,bN.next (m:=k+n) ?_ P.o ab hn (bN.Fa.trans aZ.o) av.1 ci co bB.1 bB.2⟩;exact sw
     case measure=>exact az
  have G:br s[k]=false:=by simpa using hd
  rw[G];have aH:=ad G;clear hd G cu;go_wp2_with(fail);refine(Ea s b o cap k _ (bQ.on (LL.alloc _)) aw).mono ?_;rintro e aV ⟨rfl,a9⟩;have d:tK wr aV 0 0 k:=by
   have e1:Ext wr aV:=(LL.alloc _).trans a9;have ao:=(an.new wr 141 #[.int .i64 0,.string ⟨#[]⟩,.int .i64 0,.int .i64 k]).aj a9;exact⟨Fr.ext e1,ao,ao.lt⟩
  clear a9;have Q:=ad d;obtain⟨Z,aq,ar⟩:=d.blk.two;clear d;have y:=ad (bN.Fa.symm.trans (yP (f:=s.size - k) (acc:=acc) aw bN.skip aB.o aH.o));have bj:=D9 (s.data.toList.drop k) (by rw[c6 aw];simp);rw[mN] at bj;generalize eV (s.data.toList.drop k)=n at *;have hn:k+n<=s.size:=ab;by_cases ba:n=0
  .have bR:(((k:Int)+(n:Int)) == (k:Int))=true:=by simp;omega
   have a8:=ad (y.trans (if_pos ba));have bm:(n:Int)=0:=ab;subst ba;clear y bR bm;go_wp2
   go_ret3
   exact kv.bad a8.o (bN.below.trans ((Q.below.setCell (p:=⟨wr.heap.size,0,none⟩) (Lb _) _).mono bN.below.size))
  have bR:(((k:Int)+(n:Int)) == (k:Int))=false:=by simp;omega
  have a8:=ad (y.trans (if_neg ba));have cv:0<n:=ab;clear y ba;go_upto_region 28 with(fail);generalize hX:World.setCell aV _ _=X;have r:tK wr X 4 0 k:=by
   exact zD
  clear hX Z aq ar;have L:=ad r;obtain⟨bs,a7,bS⟩:=r.blk.two;clear r;by_cases a1:acc.length=4000
  .have cO:((acc.length:Int) == 4000)=true:=by simp;omega
   have T:(acc.length == 4000)=true:=by simp;omega
   have aZ:=ad (a8.trans (if_pos a1));clear a1;go_wp2
   go_ret3
   exact xD
  have cO:((acc.length:Int) == 4000)=false:=by simp;omega
  have T:(acc.length == 4000)=false:=by simp;omega
  have aZ:=ad (a8.trans (if_neg a1));have P:=ad a1;clear a1;have D:fb X b o cap s:=bQ.Fo L.below;have ai:=λW=>gP (b:=b) (o:=o) K cv hn W;have c3:=kb D (k:=k) (n:=n) (cap - k) hn;have au:=ad D;clear D;go_upto_region 31 with(fail);generalize b7:World.setCell X _ _=Y;have u:Below wr.heap.size wr Y:=b7▸L.below.setCell (p:=⟨wr.heap.size,1,none⟩) (Lb _) _;have aj:an Y wr.heap.size 141 #[.int .i64 4,.string (s.extract k (k+n)),.int .i64 0,.int .i64 k]:=b7▸L.blk.aD 1 _;obtain⟨aa,V,ag⟩:=aj.two;have x:=ad u;clear b7 u aj bs a7 bS ai c3;go_wp2_with((at_builtin;refine bV Y pJ rfl (.tmp 119) (.tmp 121) rfl w.heap.size _ _ _ #[.int .i64 4,.string (s.extract k (k+n)),.int .i64 0,.int .i64 k] rfl (bT bN.own x.o) rfl rfl (by simp[Value.oneCell']) ab ab (Ls bN.below.size x.size) ?_;intro v2 b5 af al E;obtain⟨A2,c2,rfl,O,_⟩:=bx af));have aC:Below w.heap.size w b5:=dk (bN.below.trans (x.mono bN.below.size)) (bT bN.own x.o) al (Lb _) (Ls bN.below.size x.size);have av:=ah aC af;clear aC af al E aa V ag;have g:=kZ s b o cap (k+n) b5 (H.Fo av.1) hn;rw[Int.natCast_add] at g;refine g.mono ?_;clear g;rintro e ac ⟨rfl,rfl⟩;obtain⟨F,ci,co,b6,bv,cC⟩:=nc s (k+n) hn;rw[cC];have bB:=ah b6 bv;clear b6 bv cC;go_wp2;go_roundw
  case rel=>
   refine⟨F,acc++[⟨4,(s.data.toList.drop k).take n,0,(k:Int)⟩],rfl,bN.next (m:=k+n) ?_ P.o ab hn (bN.Fa.trans aZ.o) av.1 ci co bB.1 bB.2⟩;exact sw
  case measure=>exact az
end Go.Proofs.YtflecliffjbleaaGreat
