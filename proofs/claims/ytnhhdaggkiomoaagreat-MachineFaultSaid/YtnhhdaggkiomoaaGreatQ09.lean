/- Part 9 of the proof. No condition of its own. -/
import Derived.Test.YtnhhdaggkiomoaaGreatQ06
namespace Go.Proofs.YtnhhdaggkiomoaaGreat
open Go.RowKit Go.Proofs.Tryz
set_option maxRecDepth 1000000
set_option maxHeartbeats 25600000
set_option linter.unusedVariables false
variable{s:ByteArray}{d:Int}{acc:List Tok}{b cap f k n o:Nat}{p:UInt8→Bool}{ab w:World}
theorem tZ{x:UInt8}(h:(x.toNat:Int)=d+48)(v:Int)(l:List UInt8):iI v (x::l)=if (9223372036854775807 - d) / 10<v then -1 else iI (10*v+d) l:=by
 simp only[iI];rw[h,show d+48 - 48=d by omega]
theorem yB{v:Int}(h:v≤(9223372036854775807 - d) / 10)(hd:0≤d∧d≤9)(bM:0≤v):0≤10*v+d∧10*v+d≤9223372036854775807:=ad
theorem wj(s:ByteArray)(b o cap k n c:Nat)(w:World)(h:ft w b o cap s)(ap:k+n≤s.size)(hd:((s.data.toList.drop k).take n).all bC=true) :
  Calls prog 139 #[.slice (some ⟨b,o+k,none⟩) n c] w fun e ab=>e=.returned (.int .i64 (p9 ((s.data.toList.drop k).take n)))∧w=ab:=by
 have H:=ae h;have bW:=h.small;have cx:=ae hd;clear h hd;go_enter func139,ntmps139;go_wp2
 go_loop [3,4] (fun a i=>∃(j:Nat) (v:Int),j≤n∧0≤v∧v≤9223372036854775807∧a=.int .i64 v∧i=.int .i64 j∧iI v (((s.data.toList.drop k).take n).drop j)=p9 ((s.data.toList.drop k).take n)) (fun _ i=>n - (intOf i).toNat)
 case atStart=>exact⟨0,0,Ld _,ad,ad,rfl,rfl,rfl⟩
 case round=>
  obtain⟨j,v,bi,r,eg,rfl,rfl,g⟩:=hrel;have t:=ae g;clear g;by_cases ak:j<n
  ·have hc:=H.byte (k:=k+j) ad;rw[←Nat.add_assoc] at hc;have f:((s.data.toList.drop k).take n)[j]?=some s[k+j]:=by
    rw[List.getElem?_take_of_lt ak,List.getElem?_drop];exact byte_at ad
   have m:bC s[k+j]=true:=List.all_eq_true.1 cx.o _ (KJ f);have q:48≤s[k+j].toNat∧s[k+j].toNat≤57:=by simpa[bC] using m
   have ba:((s.data.toList.drop k).take n).drop j=s[k+j]::((s.data.toList.drop k).take n).drop (j+1):=by
    have hl:=(List.getElem?_eq_some_iff.1 f)
    rw[List.drop_eq_getElem_cons hl.1,hl.2]
   have aQ:=ae (t.symm.trans (congrArg (iI v) ba));clear f m ba;generalize s[k+j]=x at *;obtain⟨d,l⟩:∃d:Int,(x.toNat:Int)=d+48:=⟨(x.toNat:Int) - 48,ad⟩
   rw[l] at hc;have S:=ae l;have d0:0≤d:=ad;have d1:d≤9:=ad;clear l q;by_cases bM:(9223372036854775807 - d) / 10<v
   ·have aW:=ae (aQ.trans ((tZ S.o v _).trans (if_pos bM)));go_wp2;go_ret;exact⟨ret_int aW.symm,rfl⟩
   ·have aW:=ae (aQ.trans ((tZ S.o v _).trans (if_neg bM)));have b2:=ae (yB ad ⟨d0,d1⟩ r);go_wp2
    go_round
    case rel=>exact⟨j+1,10*v+d,ad,b2.1,b2.2,rfl,by go_num,aW.symm⟩
    case measure=>exact aH
  ·have G:j=n:=ad;have aW:=ae (show v=p9 ((s.data.toList.drop k).take n) by
    rw[←t.o,G,Lk (by simp;omega)];rfl)
   clear G;go_wp2;go_ret;exact⟨ret_int aW.o,rfl⟩
def qW(t:Tok):List Value:=[.int .i64 t.kind,.string (strOf t.text),.int .i64 t.num,.int .i64 t.pos]
theorem DQ(l:List Tok):∀x∈l,(qW x).length=4:=fun _ _=>rfl
theorem lq(l:List Tok)(x:Tok):(l++[x]).flatMap qW=l.flatMap qW++qW x:=by
 rw[List.flatMap_append];simp
theorem pw:ch prog 186 210 (.agg #[.int .i64 0,.string ⟨#[]⟩,.int .i64 0,.int .i64 0]) 4 40:=ch.mk' Tryz.underlying186 (by kernel_rfl) rfl ad
theorem ft.Fs(h:ft w b o cap s)(O:Below w.heap.size w ab):ft ab b o cap s:=h.on (Fr.of O)
def ko(w:World)(r:List Tok×Int×Int)(e:Ending)(ab:World):Prop:=
 ∃A n c,e=.returned (.tuple #[.slice A n c,.int .i64 r.2.1,.int .i64 r.2.2])∧n≤c∧cq (EF qW) 4 ab ab.heap.size A n r.1∧Below w.heap.size w ab
theorem ko.bad{p q:Int}{r:List Tok×Int×Int}(a5:r=([],p,q))(O:Below w.heap.size w ab):ko w r (.returned (.tuple #[.slice none 0 0,.int .i64 p,.int .i64 q])) ab:=by
 subst a5;exact⟨none,0,0,rfl,KG _,cq.bO _,O⟩
structure tr(w wr:World)(s:ByteArray)(k:Nat)(acc:List Tok)(out:Value):Prop where
 own:wr.ownsRow w.heap.size 210 4 out acc.length (acc.flatMap qW)
 jy:acc.length≤4000
 le:k≤s.size
 skip:aT false (s.data.toList.drop k)=s.data.toList.drop k
 Fc:fJ (s.size - k+1) s.size (s.data.toList.drop k) acc=dt s.data.toList
 below:Below w.heap.size w wr
theorem mr(s:ByteArray)(k:Nat):(s.data.toList.drop k).length=s.size - k:=by simp
theorem hf:∀(b:Bool) (l:List UInt8),∃n,aT b l=l.drop n∧n≤l.length
 | b,[]=>⟨0,by cases b<;>rfl,KG _⟩
 | true,c::l=>by
  by_cases h:c=10
  ·obtain⟨n,ac,av⟩:=hf false l;exact⟨n+1,by rw[aT,if_pos h,ac];rfl,by simp;omega⟩
  ·obtain⟨n,ac,av⟩:=hf true l
   exact⟨n+1,by rw[aT,if_neg h,ac];rfl,by simp;omega⟩
 | false,c::l=>by
  by_cases h:oX c=true
  ·obtain⟨n,ac,av⟩:=hf false l;exact⟨n+1,by rw[aT,if_pos h,ac];rfl,by simp;omega⟩
  ·by_cases av:c=47∧l.head?=some 47
   ·obtain⟨n,ac,aV⟩:=hf true l;exact⟨n+1,by rw[aT,if_neg h,if_pos av,ac];rfl,by simp;omega⟩
   ·exact⟨0,by rw[aT,if_neg h,if_neg av];rfl,by simp⟩
theorem ik:∀(b:Bool) (l:List UInt8),aT false (aT b l)=aT b l
 | b,[]=>by cases b<;>rfl
 | true,c::l=>by
  rw[aT];split
  ·exact ik false l
  ·exact ik true l
 | false,c::l=>by
  by_cases h:oX c=true
  ·rw[k7 h];exact ik false l
  ·by_cases av:c=47∧l.head?=some 47
   ·have e:aT false (c::l)=aT true l:=by rw[aT,if_neg h,if_pos av]
    rw[e];exact ik true l
   ·have e:aT false (c::l)=c::l:=by rw[aT,if_neg h,if_neg av]
    rw[e,e]
theorem mR(s:ByteArray)(m:Nat)(hm:m≤s.size):∃k,m≤k∧k≤s.size∧aT false (s.data.toList.drop m)=s.data.toList.drop k∧aT false (s.data.toList.drop k)=s.data.toList.drop k∧(s.size:Int) - (aT false (s.data.toList.drop m)).length=k:=by
 obtain⟨n,ac,av⟩:=hf false (s.data.toList.drop m);have hl:(s.data.toList.drop m).length=s.size - m:=by simp
 refine⟨m+n,ad,ad,?_,?_,?_⟩
 ·rw[ac,List.drop_drop]
 ·rw[←List.drop_drop,←ac];exact ik _ _
 ·rw[ac,List.length_drop,hl];omega
theorem rF(f n:Nat)(l:List UInt8)(acc:List Tok):fJ f n l acc=fJ f n (aT false l) acc:=by
 cases f with
 | zero=>rfl
 | succ f=>unfold fJ;rw[ik]
theorem k0:∀(f g n:Nat) (l:List UInt8) (acc:List Tok),l.length<f→l.length<g→fJ f n l acc=fJ g n l acc
 | 0,g,n,l,acc,h,_=>ad
 | f+1,0,n,l,acc,_,h=>ad
 | f+1,g+1,n,l,acc,J,a2=>by
  unfold fJ;have hs:=jF false l
  cases ap:aT false l with
  | nil=>rfl
  | cons c r=>
   rw[ap] at hs;simp only[KT] at hs;have e1:∀p:UInt8→Bool,p c=true→((c::r).dropWhile p).length<f∧((c::r).dropWhile p).length<g:=fun p hp=>by
    have:((c::r).dropWhile p).length≤r.length:=by
     rw[List.dropWhile_cons,if_pos hp];have:=(List.dropWhile_sublist p (l:=r)).length_le;exact this
    omega
   have e2:∀k,k≠0→((c::r).drop k).length<f∧((c::r).drop k).length<g:=fun k ap=>by
    simp only[List.length_drop,KT];omega
   simp only[];by_cases hl:bY c=true
   ·simp only[hl,if_true];have z:cd c=true:=by simp[cd,hl]
    rw[k0 f g n _ _ (e1 _ z).1 (e1 _ z).2]
   ·simp only[hl,Lm,if_false];by_cases hd:bC c=true
    ·simp only[hd,if_true];rw[k0 f g n _ _ (e1 _ hd).1 (e1 _ hd).2]
    ·simp only[hd,Lm,if_false];by_cases bt:eY (c::r)=0
     ·simp only[bt,if_true]
     ·simp only[bt,if_false];rw[k0 f g n _ _ (e2 _ bt).1 (e2 _ bt).2]
theorem tr.next{wr b:World}{m F:Nat}{out a:Value}{t:Tok}(h:tr w wr s k acc out)
  (aC:b.ownsRow w.heap.size 210 4 a (acc.length+1) (acc.flatMap qW++qW t)) (hn:acc.length≠4000) (L:k<m) (hm:m≤s.size)
  (he:fJ (s.size - k+1) s.size (s.data.toList.drop k) acc=fJ (s.size - k) s.size (s.data.toList.drop m) (acc++[t])) (O:Below w.heap.size w b)
  (cf:m≤F) (bX:F≤s.size) (cn:aT false (s.data.toList.drop m)=s.data.toList.drop F) (bO:aT false (s.data.toList.drop F)=s.data.toList.drop F):tr w b s F (acc++[t]) a:=by
 have J:=h.jy;refine⟨by rw[lq,KI];exact aC,by simp;omega,bX,bO,?_,O⟩;rw[←h.Fc,he,rF (s.size - k),cn];exact zL
theorem v3(s:ByteArray)(hs:s.size≤262144)(ac:aT false (s.data.toList.drop 0)=s.data.toList.drop k):fJ (s.size - k+1) s.size (s.data.toList.drop k) []=dt s.data.toList:=by
 have hl:s.data.toList.length=s.size:=by simp
 have g:aT false s.data.toList=s.data.toList.drop k:=by simpa using ac
 unfold dt;rw[hl,if_neg ad,rF (s.size+1),g];exact zL
theorem DR(f n:Nat)(acc:List Tok):fJ (f+1) n [] acc=(acc++[⟨5,[],0,(n:Int)⟩],(n:Int),0):=by simp[fJ,aT]
theorem uF:s.data.toList.drop k=(s.data.toList.drop k).take n++s.data.toList.drop (k+n):=by
 rw[←List.drop_drop,List.take_append_drop]
theorem rI(h:∀hl:k+n<s.size,p (s[k+n]'hl)=false):∀c,(s.data.toList.drop (k+n)).head?=some c→p c=false:=by
 intro c hc;by_cases hl:k+n<s.size
 ·rw[c7 hl] at hc;simp at hc;subst hc;exact h hl
 ·rw[Lk (by simp;omega)] at hc;cases hc
theorem sQ(h:k<s.size):((s.size:Nat):Int) - ((s.data.toList.drop (k+1)).length+1)=(k:Int):=by rw[mr];omega
theorem yu(ap:k<s.size)(g:aT false (s.data.toList.drop k)=s.data.toList.drop k)(hl:bY s[k]=true)(y:((s.data.toList.drop k).take n).all cd=true)
  (d:∀h:k+n<s.size,cd (s[k+n]'h)=false) :
  fJ (f+1) s.size (s.data.toList.drop k) acc=if (!dF ((s.data.toList.drop k).take n) && decide (16<((s.data.toList.drop k).take n).length))=true then ([],(k:Int),3)
   else if acc.length=4000 then ([],(k:Int),3) else fJ f s.size (s.data.toList.drop (k+n)) (acc++[⟨if dF ((s.data.toList.drop k).take n) then 3 else 1,(s.data.toList.drop k).take n,0,(k:Int)⟩]):=by
 have o:=g3 y (rI d);rw[←uF] at o;rw[fJ,g];rw[c7 ap] at o ⊢;simp only[hl,if_true,o.1,o.2,sQ ap]
theorem DS(ap:k<s.size)(g:aT false (s.data.toList.drop k)=s.data.toList.drop k)(hl:bY s[k]=false)(hd:bC s[k]=true)(y:((s.data.toList.drop k).take n).all bC=true)
  (d:∀h:k+n<s.size,bC (s[k+n]'h)=false) :
  fJ (f+1) s.size (s.data.toList.drop k) acc=if p9 ((s.data.toList.drop k).take n)<0 then ([],(k:Int),2)
   else if acc.length=4000 then ([],(k:Int),3) else fJ f s.size (s.data.toList.drop (k+n)) (acc++[⟨2,(s.data.toList.drop k).take n,p9 ((s.data.toList.drop k).take n),(k:Int)⟩]):=by
 have o:=g3 y (rI d);rw[←uF] at o;rw[fJ,g];rw[c7 ap] at o ⊢;simp only[hl,hd,Lm,if_false,if_true,o.1,o.2,sQ ap]
theorem yt(ap:k<s.size)(g:aT false (s.data.toList.drop k)=s.data.toList.drop k)(hl:bY s[k]=false)(hd:bC s[k]=false):
  fJ (f+1) s.size (s.data.toList.drop k) acc=if eY (s.data.toList.drop k)=0 then ([],(k:Int),1)
   else if acc.length=4000 then ([],(k:Int),3) else fJ f s.size (s.data.toList.drop (k+eY (s.data.toList.drop k))) (acc++[⟨4,(s.data.toList.drop k).take (eY (s.data.toList.drop k)),0,(k:Int)⟩]):=by
 have av:s.data.toList.drop (k+eY (s.data.toList.drop k))=(s.data.toList.drop k).drop (eY (s.data.toList.drop k)):=by rw[List.drop_drop]
 rw[av,fJ,g];rw[c7 ap];simp only[hl,hd,Lm,if_false,sQ ap]
theorem Ej(l:List UInt8)(h:l≠[]):eY l≤l.length:=by
 unfold eY
 have:1≤l.length:=by cases l with
  | nil=>exact absurd rfl h
  | cons=>simp
 split
 ·rename_i ah;simp only[KS,Ll] at ah;exact ah.2
 ·split<;>omega
theorem pt(hl:k+n<s.size)(h:((s.data.toList.drop k).take n).all p=true)(hp:p (s[k+n]'hl)=true):((s.data.toList.drop k).take (n+1)).all p=true:=by
 have a2:(s.data.toList.drop k)[n]?=some (s[k+n]'hl):=by rw[List.getElem?_drop];exact byte_at hl
 rw[aZ a2,List.all_append,h];simp[hp]
theorem gV(hc:s.size≤cap)(hn:0<n)(ap:k+n≤s.size)(W:World):
  (Instr.slice 136 (.slice (some ⟨b,o,none⟩) s.size cap) (some (.int .i64 (k:Int))) (some (.int .i64 ((k:Int)+(n:Int)))) none).run prog W=.ok (.slice (some ⟨b,o+k,none⟩) n (cap - k)) W:=nG hc hn ap W
theorem q6(s:ByteArray)(k n:Nat):strOf ((s.data.toList.drop k).take n)=s.extract k (k+n):=by rw[←gg,wM]
structure tu(wr X:World)(kind num:Int)(k:Nat):Prop where
 below:Below wr.heap.size wr X
 blk:aq X wr.heap.size 210 #[.int .i64 kind,.string ⟨#[]⟩,.int .i64 num,.int .i64 k]
 lt:wr.heap.size<X.heap.size
theorem xF(s:ByteArray)(b o cap:Nat)(w:World)(h:ft w b o cap s)(hs:s.size≤262144) :
  Calls prog 111 #[.slice (some ⟨b,o,none⟩) s.size cap] w (ko w (dt s.data.toList)):=by
 have H:=ae h;have M:=h.fit;clear h;go_enter func111,ntmps111;go_wp2_with(fail);refine(show Calls prog 138 #[.slice (some ⟨b,o,none⟩) s.size cap,.int .i64 0] _ _ from kJ s b o cap 0 _ H.o (Ld _)).mono ?_;rintro e ab ⟨rfl,rfl⟩;obtain⟨cK,_,bo,ac,av,aV⟩:=mR s 0 (Ld _);rw[aV];have a7:=ae (show tr w w s cK [] (.slice none 0 0) from ⟨⟨by simp,.inl ⟨rfl,rfl⟩⟩,by simp,bo,av,v3 s hs ac,Below.refl _ _⟩);clear ac av aV;go_wp2_with(fail);go_loopw [5,6] (fun out i wr=>∃(k:Nat) (acc:List Tok),i=.int .i64 k∧tr w wr s k acc out) (fun _ i _=>s.size+1 - (intOf i).toNat)
 case atStart=>exact⟨cK,[],rfl,a7.o⟩
 case round=>
  obtain⟨k,acc,rfl,bS⟩:=hrel;have ca:=ae bS;clear a7 bo;obtain⟨A,c,aA,bI,_,_,_⟩:=b2 bS.own;subst aA;have L:=bS.jy;have hle:=bS.le;clear bS;by_cases ak:k<s.size
  case neg=>
   have ct:k=s.size:=ad;have q:((k:Int) == (s.size:Int))=true:=by simp;omega
   have aW:=ae (show dt s.data.toList=(acc++[⟨5,[],0,(s.size:Int)⟩],(s.size:Int),0) by
    rw[←ca.Fc,ct,Lk (by simp)];exact DR _ _ _)
   subst ct;go_wp2_with((at_builtin;refine dk wr pw rfl (.tmp 21) (.tmp 24) rfl w.heap.size _ _ _ #[.int .i64 5,.string ⟨#[]⟩,.int .i64 0,.int .i64 s.size] rfl ca.own rfl rfl (by simp[Value.oneCell']) ad ad ca.below.size ?_;intro v2 aT az bB E;obtain⟨A2,c2,rfl,P,_⟩:=b2 az))
   go_ret3
   rw[aW.o];refine⟨A2,acc.length+1,c2,rfl,P,jE (l:=acc++[⟨5,[],0,(s.size:Int)⟩]) (by rw[lq];exact az) (DQ _) (by simp),?_⟩;exact fN ca.below ca.own bB (KG _) ca.below.size
  have q:((k:Int) == (s.size:Int))=false:=by simp;omega
  have hc:=H.Fs ca.below;have aE:=hc.byte ak;have aF:=hc.lt;have U:∀(j:Nat) (bi:j<s.size) (cs:Array Value) (t:TypeId),(wr.alloc (.cells cs t)).cell? ⟨b,o+j,none⟩=some (.int .u8 (s[j].toNat:Int)):=fun j bi cs t=>(hc.on (Lo.alloc _)).byte bi;obtain⟨bR,au⟩:=aI hc U;have cE:=U k ak #[.int .i64 0,.string ⟨#[]⟩,.int .i64 0,.int .i64 k] 210;clear hc U;go_wp2_with(fail);refine(lX s[k] _).mono ?_;rintro e ab ⟨rfl,rfl⟩;by_cases hl:bY s[k]=true
  ·rw[hl];have ay:=ae hl;clear hl cE;go_wp2_with(fail)
   go_loop [8] (fun e=>∃n:Nat,k+n≤s.size∧e=.int .i64 ((k:Int)+(n:Int))∧((s.data.toList.drop k).take n).all cd=true) (fun e=>s.size+1 - (intOf e).toNat)
   case atStart=>exact⟨0,ad,by simp,by simp⟩
   case round=>
    obtain⟨n,hn,rfl,y⟩:=hrel;have HA:=ae y;clear y;have t1:((k:Int)+(n:Int)).toNat=k+n:=ad;have aJ:(0:Int)≤(k:Int)+(n:Int):=ad;by_cases cF:k+n<s.size
    case' pos=>
     have cw:=au.o (k+n) cF #[.int .i64 0,.string ⟨#[]⟩,.int .i64 0,.int .i64 k] 210;have br:(k:Int)+(n:Int)<(s.size:Int):=ad;go_wp2_with(fail);refine(lX s[k+n] _).mono ?_;rintro e ab ⟨rfl,rfl⟩;by_cases cg:bY s[k+n]=true
     ·rw[cg];have bW:=ae (pt (p:=cd) cF HA.o (by simp[cd,cg]));clear cg;go_wp2
      go_round
      case rel=>exact⟨n+1,ad,by simp;omega,bW.o⟩
      case measure=>exact aH
     have al:bY s[k+n]=false:=by simpa using cg
     rw[al];have J:=ae al;clear cg al;go_wp2_with(fail);refine(kR s[k+n] _).mono ?_;rintro e ab ⟨rfl,rfl⟩;by_cases bc:bC s[k+n]=true
     ·rw[bc];have bW:=ae (pt (p:=cd) cF HA.o (by simp[cd,bc]));clear bc;go_wp2
      go_round
      case rel=>exact⟨n+1,ad,by simp;omega,bW.o⟩
      case measure=>exact aH
     have D:bC s[k+n]=false:=by simpa using bc
     rw[D];have z:cd s[k+n]=false:=by simp[cd,J.o,D]
     have aj:=ae (show 0<n from by
      rcases Nat.eq_zero_or_pos n with h0|h0
      ·subst h0;have:=J.o;simp only[KQ] at this;rw[ay.o] at this;cases this
      ·exact h0)
     have O:=ae (show ∀h:k+n<s.size,cd (s[k+n]'h)=false from fun _=>z);clear bc D z cw
    case' neg=>
     have br:decide ((k:Int)+(n:Int)<(s.size:Int))=false:=by simp;omega
     have aj:=ae (show 0<n by omega);have O:=ae (show ∀h:k+n<s.size,cd (s[k+n]'h)=false from fun h=>absurd h cF)
    all_goals
     have aM:0<n:=aj.o;have K:=ae (ca.Fc.symm.trans (yu (f:=s.size - k) (acc:=acc) ak ca.skip ay.o HA.o O.o));have s2:=fun W=>gV (b:=b) (o:=o) M aM hn W;have c2:=fun(cs:Array Value) (t:TypeId)=>j5 (bR.on (Lo.alloc (.cells cs t))) (k:=k) (n:=n) (cap - k) hn;go_wp2_with(fail);refine(mP (s.extract k (k+n)) _).mono ?_;rintro e aT ⟨rfl,bg⟩;clear s2 c2;have d:tu wr aT 1 0 k:=by
      have e1:Ext wr aT:=(Lo.alloc _).trans bg;have am:=(aq.new wr 210 #[.int .i64 1,.string ⟨#[]⟩,.int .i64 0,.int .i64 k]).ai bg;exact⟨Fr.ext e1,am,am.lt⟩
     clear bg;have Q:=ae d;obtain⟨Z,ao,ap⟩:=d.blk.two;clear d;have aB:ij (s.extract k (k+n))=dF ((s.data.toList.drop k).take n):=by unfold ij;rw[gg]
     rw[aB];clear aB;have hlen:((s.data.toList.drop k).take n).length=n:=by simp;omega
     by_cases a5:dF ((s.data.toList.drop k).take n)=true
     ·rw[a5] at K ⊢;have bq:=ae (K.o);clear a5 hlen K;simp only[Bool.not_true,Bool.false_and,Lm,if_false,if_true] at bq;go_upto_region 28 with(fail);generalize hX:World.setCell aT _ _=X;have r:tu wr X 3 0 k:=by
       exact zk
      clear hX Z ao ap;have aa:=ae r;obtain⟨bs,aX,a4⟩:=r.blk.two;clear r;by_cases bz:acc.length=4000
      ·have df:((acc.length:Int) == 4000)=true:=by simp;omega
       have V:(acc.length == 4000)=true:=by simp;omega
       have aW:=ae (bq.trans (if_pos bz));clear bz;go_wp2
       go_ret3
       exact r4
      have df:((acc.length:Int) == 4000)=false:=by simp;omega
      have V:(acc.length == 4000)=false:=by simp;omega
      have aW:=ae (bq.trans (if_neg bz));have R:=ae bz;clear bz;have G:ft X b o cap s:=bR.Fs aa.below;have T:=fun W=>gV (b:=b) (o:=o) M aM hn W;have c3:=j5 G (k:=k) (n:=n) (cap - k) hn;have ar:=ae G;clear G;go_upto_region 31 with(fail);generalize cr:World.setCell X _ _=Y;have C:Below wr.heap.size wr Y:=cr▸aa.below.setCell (p:=⟨wr.heap.size,1,none⟩) (KG _) _;have ai:aq Y wr.heap.size 210 #[.int .i64 3,.string (s.extract k (k+n)),.int .i64 0,.int .i64 k]:=cr▸aa.blk.aM 1 _;obtain⟨b5,af,ah⟩:=ai.two;have x:=ae C;clear cr C ai bs aX a4 T c3;go_wp2_with((at_builtin;refine dk Y pw rfl (.tmp 119) (.tmp 121) rfl w.heap.size _ _ _ #[.int .i64 3,.string (s.extract k (k+n)),.int .i64 0,.int .i64 k] rfl (b1 ca.own x.o) rfl rfl (by simp[Value.oneCell']) ad ad (KX ca.below.size x.size) ?_;intro v2 c6 az bB E;obtain⟨A2,c2,rfl,P,_⟩:=b2 az));have S:Below w.heap.size w c6:=fN (ca.below.trans (x.mono ca.below.size)) (b1 ca.own x.o) bB (KG _) (KX ca.below.size x.size);have N:=ag S az;clear S az bB E b5 af ah;have g:=kJ s b o cap (k+n) c6 (H.Fs N.1) hn;rw[Int.natCast_add] at g;refine g.mono ?_;clear g;rintro e ab ⟨rfl,rfl⟩;obtain⟨F,cf,bX,cn,bO,cP⟩:=mR s (k+n) hn;rw[cP];have bm:=ag cn bO;clear cn bO cP;go_wp2;go_roundw
      case rel=>
       refine⟨F,acc++[⟨3,(s.data.toList.drop k).take n,0,(k:Int)⟩],rfl,ca.next (m:=k+n) ?_ R.o ad hn (ca.Fc.trans aW.o) N.1 cf bX bm.1 bm.2⟩;exact r9
      case measure=>exact aH
     have I:dF ((s.data.toList.drop k).take n)=false:=by simpa using a5
     rw[I] at K ⊢;by_cases an:16<n
     ·have bq:=ae (K.trans (if_pos (by rw[hlen];simp[an])));clear a5 I hlen;go_wp2
      go_ret3
      exact ko.bad bq.o (ca.below.trans (Q.below.mono ca.below.size))
     have bq:=ae (K.trans (if_neg (by rw[hlen];simp[an])));simp only[Lm,if_false] at bq;clear a5 I hlen K;go_upto_region 28 with(fail);have X:World:=aT;clear X;generalize aT=X at *;have r:=Q.o;clear Z ao ap;have aa:=ae r;obtain⟨bs,aX,a4⟩:=r.blk.two;clear r;by_cases bz:acc.length=4000
     ·have df:((acc.length:Int) == 4000)=true:=by simp;omega
      have V:(acc.length == 4000)=true:=by simp;omega
      have aW:=ae (bq.trans (if_pos bz));clear bz;go_wp2
      go_ret3
      exact r4
     have df:((acc.length:Int) == 4000)=false:=by simp;omega
     have V:(acc.length == 4000)=false:=by simp;omega
     have aW:=ae (bq.trans (if_neg bz));have R:=ae bz;clear bz;have G:ft X b o cap s:=bR.Fs aa.below;have T:=fun W=>gV (b:=b) (o:=o) M aM hn W;have c3:=j5 G (k:=k) (n:=n) (cap - k) hn;have ar:=ae G;clear G;go_upto_region 31 with(fail);generalize cr:World.setCell X _ _=Y;have C:Below wr.heap.size wr Y:=cr▸aa.below.setCell (p:=⟨wr.heap.size,1,none⟩) (KG _) _;have ai:aq Y wr.heap.size 210 #[.int .i64 1,.string (s.extract k (k+n)),.int .i64 0,.int .i64 k]:=cr▸aa.blk.aM 1 _;obtain⟨b5,af,ah⟩:=ai.two;have x:=ae C;clear cr C ai bs aX a4 T c3;go_wp2_with((at_builtin;refine dk Y pw rfl (.tmp 119) (.tmp 121) rfl w.heap.size _ _ _ #[.int .i64 1,.string (s.extract k (k+n)),.int .i64 0,.int .i64 k] rfl (b1 ca.own x.o) rfl rfl (by simp[Value.oneCell']) ad ad (KX ca.below.size x.size) ?_;intro v2 c6 az bB E;obtain⟨A2,c2,rfl,P,_⟩:=b2 az));have S:Below w.heap.size w c6:=fN (ca.below.trans (x.mono ca.below.size)) (b1 ca.own x.o) bB (KG _) (KX ca.below.size x.size);have N:=ag S az;clear S az bB E b5 af ah;have g:=kJ s b o cap (k+n) c6 (H.Fs N.1) hn;rw[Int.natCast_add] at g;refine g.mono ?_;clear g;rintro e ab ⟨rfl,rfl⟩;obtain⟨F,cf,bX,cn,bO,cP⟩:=mR s (k+n) hn;rw[cP];have bm:=ag cn bO;clear cn bO cP;go_wp2;go_roundw
     case rel=>
      refine⟨F,acc++[⟨1,(s.data.toList.drop k).take n,0,(k:Int)⟩],rfl,ca.next (m:=k+n) ?_ R.o ad hn (ca.Fc.trans aW.o) N.1 cf bX bm.1 bm.2⟩;exact r9
     case measure=>exact aH
  have aC:bY s[k]=false:=by simpa using hl
  rw[aC];have ax:=ae aC;clear hl aC;go_wp2_with(fail);refine(kR s[k] _).mono ?_;rintro e ab ⟨rfl,rfl⟩;by_cases hd:bC s[k]=true
  ·rw[hd];have aw:=ae hd;clear hd cE;go_wp2_with(fail)
   go_loop [8] (fun e=>∃n:Nat,k+n≤s.size∧e=.int .i64 ((k:Int)+(n:Int))∧((s.data.toList.drop k).take n).all bC=true) (fun e=>s.size+1 - (intOf e).toNat)
   case atStart=>exact⟨0,ad,by simp,by simp⟩
   case round=>
    obtain⟨n,hn,rfl,y⟩:=hrel;have HA:=ae y;clear y;have t1:((k:Int)+(n:Int)).toNat=k+n:=ad;have aJ:(0:Int)≤(k:Int)+(n:Int):=ad;by_cases cF:k+n<s.size
    case' pos=>
     have cw:=au.o (k+n) cF #[.int .i64 0,.string ⟨#[]⟩,.int .i64 0,.int .i64 k] 210;have br:(k:Int)+(n:Int)<(s.size:Int):=ad;go_wp2_with(fail);refine(kR s[k+n] _).mono ?_;rintro e ab ⟨rfl,rfl⟩;by_cases bc:bC s[k+n]=true
     ·rw[bc];have bW:=ae (pt (p:=bC) cF HA.o bc);clear bc;go_wp2
      go_round
      case rel=>exact⟨n+1,ad,by simp;omega,bW.o⟩
      case measure=>exact aH
     have D:bC s[k+n]=false:=by simpa using bc
     rw[D];have aj:=ae (show 0<n from by
      rcases Nat.eq_zero_or_pos n with h0|h0
      ·subst h0;simp only[KQ] at D;rw[aw.o] at D;cases D
      ·exact h0)
     have O:=ae (show ∀h:k+n<s.size,bC (s[k+n]'h)=false from fun _=>D);clear bc D cw
    case' neg=>
     have br:decide ((k:Int)+(n:Int)<(s.size:Int))=false:=by simp;omega
     have aj:=ae (show 0<n by omega);have O:=ae (show ∀h:k+n<s.size,bC (s[k+n]'h)=false from fun h=>absurd h cF)
    all_goals
     have aM:0<n:=aj.o;have K:=ae (ca.Fc.symm.trans (DS (f:=s.size - k) (acc:=acc) ak ca.skip ax.o aw.o HA.o O.o));have s2:=fun W=>gV (b:=b) (o:=o) M aM hn W;go_wp2_with(fail);refine(wj s b o cap k n (cap - k) _ (bR.on (Lo.alloc _)) hn HA.o).mono ?_;rintro e ab ⟨rfl,rfl⟩;clear s2;generalize p9 ((s.data.toList.drop k).take n)=v at *;by_cases bM:v<0
     ·have bq:=ae (K.trans (if_pos bM));have aG:decide (v<0)=true:=by simpa using bM
      clear K;go_wp2
      go_ret3
      exact ko.bad bq.o (ca.below.trans (((Below.refl _ _).alloc (KG _) _).mono ca.below.size))
     have bq:=ae (K.trans (if_neg bM));have aG:decide (v<0)=false:=by simpa using bM
     clear K bM;go_upto_region 28 with(fail);generalize hX:World.alloc wr _=X;have r:tu wr X 2 v k:=by
      rw[←hX];exact⟨(Below.refl _ _).alloc (KG _) _,Lp,by simp⟩
     clear hX;have aa:=ae r;obtain⟨bs,aX,a4⟩:=r.blk.two;clear r;by_cases bz:acc.length=4000
     ·have df:((acc.length:Int) == 4000)=true:=by simp;omega
      have V:(acc.length == 4000)=true:=by simp;omega
      have aW:=ae (bq.trans (if_pos bz));clear bz;go_wp2
      go_ret3
      exact r4
     have df:((acc.length:Int) == 4000)=false:=by simp;omega
     have V:(acc.length == 4000)=false:=by simp;omega
     have aW:=ae (bq.trans (if_neg bz));have R:=ae bz;clear bz;have G:ft X b o cap s:=bR.Fs aa.below;have T:=fun W=>gV (b:=b) (o:=o) M aM hn W;have c3:=j5 G (k:=k) (n:=n) (cap - k) hn;have ar:=ae G;clear G;go_upto_region 31 with(fail);generalize cr:World.setCell X _ _=Y;have C:Below wr.heap.size wr Y:=cr▸aa.below.setCell (p:=⟨wr.heap.size,1,none⟩) (KG _) _;have ai:aq Y wr.heap.size 210 #[.int .i64 2,.string (s.extract k (k+n)),.int .i64 v,.int .i64 k]:=cr▸aa.blk.aM 1 _;obtain⟨b5,af,ah⟩:=ai.two;have x:=ae C;clear cr C ai bs aX a4 T c3;go_wp2_with((at_builtin;refine dk Y pw rfl (.tmp 119) (.tmp 121) rfl w.heap.size _ _ _ #[.int .i64 2,.string (s.extract k (k+n)),.int .i64 v,.int .i64 k] rfl (b1 ca.own x.o) rfl rfl (by simp[Value.oneCell']) ad ad (KX ca.below.size x.size) ?_;intro v2 c6 az bB E;obtain⟨A2,c2,rfl,P,_⟩:=b2 az));have S:Below w.heap.size w c6:=fN (ca.below.trans (x.mono ca.below.size)) (b1 ca.own x.o) bB (KG _) (KX ca.below.size x.size);have N:=ag S az;clear S az bB E b5 af ah;have g:=kJ s b o cap (k+n) c6 (H.Fs N.1) hn;rw[Int.natCast_add] at g;refine g.mono ?_;clear g;rintro e ab ⟨rfl,rfl⟩;obtain⟨F,cf,bX,cn,bO,cP⟩:=mR s (k+n) hn;rw[cP];have bm:=ag cn bO;clear cn bO cP;go_wp2;go_roundw
     case rel=>
      refine⟨F,acc++[⟨2,(s.data.toList.drop k).take n,v,(k:Int)⟩],rfl,ca.next (m:=k+n) ?_ R.o ad hn (ca.Fc.trans aW.o) N.1 cf bX bm.1 bm.2⟩;exact r9
     case measure=>exact aH
  have u:bC s[k]=false:=by simpa using hd
  rw[u];have aD:=ae u;clear hd u cE;go_wp2_with(fail);refine(Ek s b o cap k _ (bR.on (Lo.alloc _)) ak).mono ?_;rintro e aT ⟨rfl,bg⟩;have d:tu wr aT 0 0 k:=by
   have e1:Ext wr aT:=(Lo.alloc _).trans bg;have am:=(aq.new wr 210 #[.int .i64 0,.string ⟨#[]⟩,.int .i64 0,.int .i64 k]).ai bg;exact⟨Fr.ext e1,am,am.lt⟩
  clear bg;have Q:=ae d;obtain⟨Z,ao,ap⟩:=d.blk.two;clear d;have K:=ae (ca.Fc.symm.trans (yt (f:=s.size - k) (acc:=acc) ak ca.skip ax.o aD.o));have b9:=Ej (s.data.toList.drop k) (by rw[c7 ak];simp);rw[mr] at b9;generalize eY (s.data.toList.drop k)=n at *;have hn:k+n≤s.size:=ad;by_cases bt:n=0
  ·have bT:(((k:Int)+(n:Int)) == (k:Int))=true:=by simp;omega
   have bq:=ae (K.trans (if_pos bt));have b3:(n:Int)=0:=ad;subst bt;clear K bT b3;go_wp2
   go_ret3
   exact ko.bad bq.o (ca.below.trans ((Q.below.setCell (p:=⟨wr.heap.size,0,none⟩) (KG _) _).mono ca.below.size))
  have bT:(((k:Int)+(n:Int)) == (k:Int))=false:=by simp;omega
  have bq:=ae (K.trans (if_neg bt));have aM:0<n:=ad;clear K bt;go_upto_region 28 with(fail);generalize hX:World.setCell aT _ _=X;have r:tu wr X 4 0 k:=by
   exact zk
  clear hX Z ao ap;have aa:=ae r;obtain⟨bs,aX,a4⟩:=r.blk.two;clear r;by_cases bz:acc.length=4000
  ·have df:((acc.length:Int) == 4000)=true:=by simp;omega
   have V:(acc.length == 4000)=true:=by simp;omega
   have aW:=ae (bq.trans (if_pos bz));clear bz;go_wp2
   go_ret3
   exact r4
  have df:((acc.length:Int) == 4000)=false:=by simp;omega
  have V:(acc.length == 4000)=false:=by simp;omega
  have aW:=ae (bq.trans (if_neg bz));have R:=ae bz;clear bz;have G:ft X b o cap s:=bR.Fs aa.below;have T:=fun W=>gV (b:=b) (o:=o) M aM hn W;have c3:=j5 G (k:=k) (n:=n) (cap - k) hn;have ar:=ae G;clear G;go_upto_region 31 with(fail);generalize cr:World.setCell X _ _=Y;have C:Below wr.heap.size wr Y:=cr▸aa.below.setCell (p:=⟨wr.heap.size,1,none⟩) (KG _) _;have ai:aq Y wr.heap.size 210 #[.int .i64 4,.string (s.extract k (k+n)),.int .i64 0,.int .i64 k]:=cr▸aa.blk.aM 1 _;obtain⟨b5,af,ah⟩:=ai.two;have x:=ae C;clear cr C ai bs aX a4 T c3;go_wp2_with((at_builtin;refine dk Y pw rfl (.tmp 119) (.tmp 121) rfl w.heap.size _ _ _ #[.int .i64 4,.string (s.extract k (k+n)),.int .i64 0,.int .i64 k] rfl (b1 ca.own x.o) rfl rfl (by simp[Value.oneCell']) ad ad (KX ca.below.size x.size) ?_;intro v2 c6 az bB E;obtain⟨A2,c2,rfl,P,_⟩:=b2 az));have S:Below w.heap.size w c6:=fN (ca.below.trans (x.mono ca.below.size)) (b1 ca.own x.o) bB (KG _) (KX ca.below.size x.size);have N:=ag S az;clear S az bB E b5 af ah;have g:=kJ s b o cap (k+n) c6 (H.Fs N.1) hn;rw[Int.natCast_add] at g;refine g.mono ?_;clear g;rintro e ab ⟨rfl,rfl⟩;obtain⟨F,cf,bX,cn,bO,cP⟩:=mR s (k+n) hn;rw[cP];have bm:=ag cn bO;clear cn bO cP;go_wp2;go_roundw
  case rel=>
   refine⟨F,acc++[⟨4,(s.data.toList.drop k).take n,0,(k:Int)⟩],rfl,ca.next (m:=k+n) ?_ R.o ad hn (ca.Fc.trans aW.o) N.1 cf bX bm.1 bm.2⟩;exact r9
  case measure=>exact aH
end Go.Proofs.YtnhhdaggkiomoaaGreat
