/- Part 9 of the proof (LexB LexC LexD), without conditions of its own. -/
import Derived.Test.YtjhgbdckgkppnaaGreatQ06
namespace Go.Proofs.YtjhgbdckgkppnaaGreat
open Go.RowKit Go.Proofs.Tryz
set_option maxRecDepth 1000000
set_option maxHeartbeats 25600000
set_option linter.unusedVariables false
variable{s:ByteArray}{d:Int}{acc:List Tok}{b cap f k n o:Nat}{p:UInt8→Bool}{ab w:World}
theorem rq{x:UInt8}(h:(x.toNat:Int)=d+48)(v:Int)(l:List UInt8):hG v (x::l)=if (9223372036854775807 - d) / 10<v then -1 else hG (10*v+d) l:=by
 simp only[hG];rw[h,show d+48 - 48=d by omega]
theorem vB{v:Int}(h:v≤(9223372036854775807 - d) / 10)(hd:0≤d∧d≤9)(bC:0≤v):0≤10*v+d∧10*v+d≤9223372036854775807:=ad
theorem tj(s:ByteArray)(b o cap k n c:Nat)(w:World)(h:eG w b o cap s)(ap:k+n≤s.size)(hd:((s.data.toList.drop k).take n).all bp=true) :
  Calls prog 132 #[.slice (some ⟨b,o+k,none⟩) n c] w fun e ab=>e=.returned (.int .i64 (oh ((s.data.toList.drop k).take n)))∧w=ab:=by
 have H:=ae h;have bN:=h.small;have c6:=ae hd;clear h hd;go_enter func132,ntmps132;go_wp2
 go_loop [3,4] (fun a i=>∃(j:Nat) (v:Int),j≤n∧0≤v∧v≤9223372036854775807∧a=.int .i64 v∧i=.int .i64 j∧hG v (((s.data.toList.drop k).take n).drop j)=oh ((s.data.toList.drop k).take n)) (fun _ i=>n - (intOf i).toNat)
 case atStart=>exact⟨0,0,Gz _,ad,ad,rfl,rfl,rfl⟩
 case round=>
  obtain⟨j,v,ba,t,ea,rfl,rfl,r⟩:=hrel;have f:=ae r;clear r;by_cases ao:j<n
  ·have hc:=H.byte (k:=k+j) ad;rw[←Nat.add_assoc] at hc;have g:((s.data.toList.drop k).take n)[j]?=some s[k+j]:=by
    rw[List.getElem?_take_of_lt ao,List.getElem?_drop];exact byte_at ad
   have m:bp s[k+j]=true:=List.all_eq_true.1 c6.o _ (Ge g);have q:48≤s[k+j].toNat∧s[k+j].toNat≤57:=by simpa [bp] using m
   have aq:((s.data.toList.drop k).take n).drop j=s[k+j]::((s.data.toList.drop k).take n).drop (j+1):=by
    have hl:=(List.getElem?_eq_some_iff.1 g)
    rw[List.drop_eq_getElem_cons hl.1,hl.2]
   have aU:=ae (f.symm.trans (congrArg (hG v) aq));clear g m aq;generalize s[k+j]=x at *;obtain⟨d,l⟩:∃d:Int,(x.toNat:Int)=d+48:=⟨(x.toNat:Int) - 48,ad⟩
   rw[l] at hc;have aa:=ae l;have a6:0≤d:=ad;have ca:d≤9:=ad;clear l q;by_cases bl:(9223372036854775807 - d) / 10<v
   ·have aZ:=ae (aU.trans ((rq aa.o v _).trans (if_pos bl)));go_wp2;go_ret;exact⟨ret_int aZ.symm,rfl⟩
   ·have aZ:=ae (aU.trans ((rq aa.o v _).trans (if_neg bl)));have a4:=ae (vB ad ⟨a6,ca⟩ t);go_wp2
    go_round
    case rel=>exact⟨j+1,10*v+d,ad,a4.1,a4.2,rfl,by go_num,aZ.symm⟩
    case measure=>simp[intOf];omega
  ·have G:j=n:=ad;have aZ:=ae (show v=oh ((s.data.toList.drop k).take n) by
    rw[←f.o,G,GJ (by simp;omega)];rfl)
   clear G;go_wp2;go_ret;exact⟨ret_int aZ.o,rfl⟩
def nK(t:Tok):List Value:=[.int .i64 t.kind,.string (strOf t.text),.int .i64 t.num,.int .i64 t.pos]
theorem AI(l:List Tok):∀x∈l,(nK x).length=4:=fun _ _=>rfl
theorem kn(l:List Tok)(x:Tok):(l++[x]).flatMap nK=l.flatMap nK++nK x:=by
 rw[List.flatMap_append];simp
theorem nD:b0 prog 181 203 (.agg #[.int .i64 0,.string ⟨#[]⟩,.int .i64 0,.int .i64 0]) 4 40:=b0.mk' Tryz.underlying181 (by kernel_rfl) rfl ad
theorem eG.Cg(h:eG w b o cap s)(O:Below w.heap.size w ab):eG ab b o cap s:=h.on (Fr.of O)
def iQ(w:World)(r:List Tok×Int×Int)(e:Ending)(ab:World):Prop:=
 ∃A n c,e=.returned (.tuple #[.slice A n c,.int .i64 r.2.1,.int .i64 r.2.2])∧n≤c∧cG (EF nK) 4 ab ab.heap.size A n r.1∧Below w.heap.size w ab
theorem iQ.bad{p q:Int}{r:List Tok×Int×Int}(aX:r=([],p,q))(O:Below w.heap.size w ab):iQ w r (.returned (.tuple #[.slice none 0 0,.int .i64 p,.int .i64 q])) ab:=by
 subst aX;exact⟨none,0,0,rfl,Gb _,cG.bu _,O⟩
structure qN(w wr:World)(s:ByteArray)(k:Nat)(acc:List Tok)(out:Value):Prop where
 own:wr.ownsRow w.heap.size 203 4 out acc.length (acc.flatMap nK)
 ir:acc.length≤4000
 le:k≤s.size
 skip:aQ false (s.data.toList.drop k)=s.data.toList.drop k
 B3:eV (s.size - k+1) s.size (s.data.toList.drop k) acc=db s.data.toList
 below:Below w.heap.size w wr
theorem k2(s:ByteArray)(k:Nat):(s.data.toList.drop k).length=s.size - k:=by simp
theorem gi:∀(b:Bool) (l:List UInt8),∃n,aQ b l=l.drop n∧n≤l.length
 | b,[]=>⟨0,by cases b<;>rfl,Gb _⟩
 | true,c::l=>by
  by_cases h:c=10
  ·obtain⟨n,ac,J⟩:=gi false l;exact⟨n+1,by rw[aQ,if_pos h,ac];rfl,by simp;omega⟩
  ·obtain⟨n,ac,J⟩:=gi true l
   exact⟨n+1,by rw[aQ,if_neg h,ac];rfl,by simp;omega⟩
 | false,c::l=>by
  by_cases h:ni c=true
  ·obtain⟨n,ac,J⟩:=gi false l;exact⟨n+1,by rw[aQ,if_pos h,ac];rfl,by simp;omega⟩
  ·by_cases J:c=47∧l.head?=some 47
   ·obtain⟨n,ac,aS⟩:=gi true l;exact⟨n+1,by rw[aQ,if_neg h,if_pos J,ac];rfl,by simp;omega⟩
   ·exact⟨0,by rw[aQ,if_neg h,if_neg J];rfl,by simp⟩
theorem g9:∀(b:Bool) (l:List UInt8),aQ false (aQ b l)=aQ b l
 | b,[]=>by cases b<;>rfl
 | true,c::l=>by
  rw[aQ];split
  ·exact g9 false l
  ·exact g9 true l
 | false,c::l=>by
  by_cases h:ni c=true
  ·rw[kb h];exact g9 false l
  ·by_cases J:c=47∧l.head?=some 47
   ·have e:aQ false (c::l)=aQ true l:=by rw[aQ,if_neg h,if_pos J]
    rw[e];exact g9 true l
   ·have e:aQ false (c::l)=c::l:=by rw[aQ,if_neg h,if_neg J]
    rw[e,e]
theorem lC(s:ByteArray)(m:Nat)(hm:m≤s.size):∃k,m≤k∧k≤s.size∧aQ false (s.data.toList.drop m)=s.data.toList.drop k∧aQ false (s.data.toList.drop k)=s.data.toList.drop k∧(s.size:Int) - (aQ false (s.data.toList.drop m)).length=k:=by
 obtain⟨n,ac,J⟩:=gi false (s.data.toList.drop m);have hl:(s.data.toList.drop m).length=s.size - m:=by simp
 refine⟨m+n,ad,ad,?_,?_,?_⟩
 ·rw[ac,List.drop_drop]
 ·rw[←List.drop_drop,←ac];exact g9 _ _
 ·rw[ac,List.length_drop,hl];omega
theorem py(f n:Nat)(l:List UInt8)(acc:List Tok):eV f n l acc=eV f n (aQ false l) acc:=by
 cases f with
 | zero=>rfl
 | succ f=>unfold eV;rw[g9]
theorem j4:∀(f g n:Nat) (l:List UInt8) (acc:List Tok),l.length<f→l.length<g→eV f n l acc=eV g n l acc
 | 0,g,n,l,acc,h,_=>ad
 | f+1,0,n,l,acc,_,h=>ad
 | f+1,g+1,n,l,acc,aw,aM=>by
  unfold eV;have hs:=iH false l
  cases ap:aQ false l with
  | nil=>rfl
  | cons c r=>
   rw[ap] at hs;simp only[Gp] at hs;have e1:∀p:UInt8→Bool,p c=true→((c::r).dropWhile p).length<f∧((c::r).dropWhile p).length<g:=fun p hp=>by
    have:((c::r).dropWhile p).length≤r.length:=by
     rw[List.dropWhile_cons,if_pos hp];have:=(List.dropWhile_sublist p (l:=r)).length_le;exact this
    omega
   have e2:∀k,k≠0→((c::r).drop k).length<f∧((c::r).drop k).length<g:=fun k ap=>by
    simp only[List.length_drop,Gp];omega
   simp only[];by_cases hl:bM c=true
   ·simp only[hl,if_true];have S:bY c=true:=by simp[bY,hl]
    rw[j4 f g n _ _ (e1 _ S).1 (e1 _ S).2]
   ·simp only[hl,GL,if_false];by_cases hd:bp c=true
    ·simp only[hd,if_true];rw[j4 f g n _ _ (e1 _ hd).1 (e1 _ hd).2]
    ·simp only[hd,GL,if_false];by_cases bv:eu (c::r)=0
     ·simp only[bv,if_true]
     ·simp only[bv,if_false];rw[j4 f g n _ _ (e2 _ bv).1 (e2 _ bv).2]
theorem qN.next{wr b:World}{m F:Nat}{out a:Value}{t:Tok}(h:qN w wr s k acc out)
  (I:b.ownsRow w.heap.size 203 4 a (acc.length+1) (acc.flatMap nK++nK t)) (hn:acc.length≠4000) (R:k<m) (hm:m≤s.size)
  (he:eV (s.size - k+1) s.size (s.data.toList.drop k) acc=eV (s.size - k) s.size (s.data.toList.drop m) (acc++[t])) (O:Below w.heap.size w b)
  (bF:m≤F) (az:F≤s.size) (b7:aQ false (s.data.toList.drop m)=s.data.toList.drop F) (bK:aQ false (s.data.toList.drop F)=s.data.toList.drop F):qN w b s F (acc++[t]) a:=by
 have aw:=h.ir;refine⟨by rw[kn,Gd];exact I,by simp;omega,az,bK,?_,O⟩;rw[←h.B3,he,py (s.size - k),b7];exact wI
theorem s6(s:ByteArray)(hs:s.size≤262144)(ac:aQ false (s.data.toList.drop 0)=s.data.toList.drop k):eV (s.size - k+1) s.size (s.data.toList.drop k) []=db s.data.toList:=by
 have hl:s.data.toList.length=s.size:=by simp
 have g:aQ false s.data.toList=s.data.toList.drop k:=by simpa using ac
 unfold db;rw[hl,if_neg ad,py (s.size+1),g];exact wI
theorem AJ(f n:Nat)(acc:List Tok):eV (f+1) n [] acc=(acc++[⟨5,[],0,(n:Int)⟩],(n:Int),0):=by simp[eV,aQ]
theorem rQ:s.data.toList.drop k=(s.data.toList.drop k).take n++s.data.toList.drop (k+n):=by
 rw[←List.drop_drop,List.take_append_drop]
theorem pB(h:∀hl:k+n<s.size,p (s[k+n]'hl)=false):∀c,(s.data.toList.drop (k+n)).head?=some c→p c=false:=by
 intro c hc;by_cases hl:k+n<s.size
 ·rw[cI hl] at hc;simp at hc;subst hc;exact h hl
 ·rw[GJ (by simp;omega)] at hc;cases hc
theorem qi(h:k<s.size):((s.size:Nat):Int) - ((s.data.toList.drop (k+1)).length+1)=(k:Int):=by rw[k2];omega
theorem vt(ap:k<s.size)(g:aQ false (s.data.toList.drop k)=s.data.toList.drop k)(hl:bM s[k]=true)(y:((s.data.toList.drop k).take n).all bY=true)
  (d:∀h:k+n<s.size,bY (s[k+n]'h)=false) :
  eV (f+1) s.size (s.data.toList.drop k) acc=if (!dm ((s.data.toList.drop k).take n) && decide (16<((s.data.toList.drop k).take n).length))=true then ([],(k:Int),3)
   else if acc.length=4000 then ([],(k:Int),3) else eV f s.size (s.data.toList.drop (k+n)) (acc++[⟨if dm ((s.data.toList.drop k).take n) then 3 else 1,(s.data.toList.drop k).take n,0,(k:Int)⟩]):=by
 have i:=gb y (pB d);rw[←rQ] at i;rw[eV,g];rw[cI ap] at i ⊢;simp only[hl,if_true,i.1,i.2,qi ap]
theorem AK(ap:k<s.size)(g:aQ false (s.data.toList.drop k)=s.data.toList.drop k)(hl:bM s[k]=false)(hd:bp s[k]=true)(y:((s.data.toList.drop k).take n).all bp=true)
  (d:∀h:k+n<s.size,bp (s[k+n]'h)=false) :
  eV (f+1) s.size (s.data.toList.drop k) acc=if oh ((s.data.toList.drop k).take n)<0 then ([],(k:Int),2)
   else if acc.length=4000 then ([],(k:Int),3) else eV f s.size (s.data.toList.drop (k+n)) (acc++[⟨2,(s.data.toList.drop k).take n,oh ((s.data.toList.drop k).take n),(k:Int)⟩]):=by
 have i:=gb y (pB d);rw[←rQ] at i;rw[eV,g];rw[cI ap] at i ⊢;simp only[hl,hd,GL,if_false,if_true,i.1,i.2,qi ap]
theorem vr(ap:k<s.size)(g:aQ false (s.data.toList.drop k)=s.data.toList.drop k)(hl:bM s[k]=false)(hd:bp s[k]=false):
  eV (f+1) s.size (s.data.toList.drop k) acc=if eu (s.data.toList.drop k)=0 then ([],(k:Int),1)
   else if acc.length=4000 then ([],(k:Int),3) else eV f s.size (s.data.toList.drop (k+eu (s.data.toList.drop k))) (acc++[⟨4,(s.data.toList.drop k).take (eu (s.data.toList.drop k)),0,(k:Int)⟩]):=by
 have J:s.data.toList.drop (k+eu (s.data.toList.drop k))=(s.data.toList.drop k).drop (eu (s.data.toList.drop k)):=by rw[List.drop_drop]
 rw[J,eV,g];rw[cI ap];simp only[hl,hd,GL,if_false,qi ap]
theorem Be(l:List UInt8)(h:l≠[]):eu l≤l.length:=by
 unfold eu
 have:1≤l.length:=by cases l with
  | nil=>exact absurd rfl h
  | cons=>simp
 split
 ·rename_i aj;simp only[Gn,GK] at aj;exact aj.2
 ·split<;>omega
theorem nC(hl:k+n<s.size)(h:((s.data.toList.drop k).take n).all p=true)(hp:p (s[k+n]'hl)=true):((s.data.toList.drop k).take (n+1)).all p=true:=by
 have aM:(s.data.toList.drop k)[n]?=some (s[k+n]'hl):=by rw[List.getElem?_drop];exact byte_at hl
 rw[bo aM,List.all_append,h];simp[hp]
theorem f6(hc:s.size≤cap)(hn:0<n)(ap:k+n≤s.size)(W:World):
  (Instr.slice 131 (.slice (some ⟨b,o,none⟩) s.size cap) (some (.int .i64 (k:Int))) (some (.int .i64 ((k:Int)+(n:Int)))) none).run prog W=.ok (.slice (some ⟨b,o+k,none⟩) n (cap - k)) W:=ma hc hn ap W
theorem kr(s:ByteArray)(k n:Nat):strOf ((s.data.toList.drop k).take n)=s.extract k (k+n):=by rw[←fq,tI]
structure qQ(wr X:World)(kind num:Int)(k:Nat):Prop where
 below:Below wr.heap.size wr X
 blk:ag X wr.heap.size 203 #[.int .i64 kind,.string ⟨#[]⟩,.int .i64 num,.int .i64 k]
 lt:wr.heap.size<X.heap.size
theorem uI(s:ByteArray)(b o cap:Nat)(w:World)(h:eG w b o cap s)(hs:s.size≤262144) :
  Calls prog 104 #[.slice (some ⟨b,o,none⟩) s.size cap] w (iQ w (db s.data.toList)):=by
 have H:=ae h;have M:=h.fit;clear h;go_enter func104,ntmps104;go_wp2_with (fail);refine(show Calls prog 131 #[.slice (some ⟨b,o,none⟩) s.size cap,.int .i64 0] _ _ from jL s b o cap 0 _ H.o (Gz _)).mono ?_;rintro e ab ⟨rfl,rfl⟩;obtain⟨cH,_,aG,ac,J,aS⟩:=lC s 0 (Gz _);rw[aS];have aF:=ae (show qN w w s cH [] (.slice none 0 0) from ⟨⟨by simp,.inl ⟨rfl,rfl⟩⟩,by simp,aG,J,s6 s hs ac,Below.refl _ _⟩);clear ac J aS;go_wp2_with (fail);go_loopw [5,6] (fun out i wr=>∃(k:Nat) (acc:List Tok),i=.int .i64 k∧qN w wr s k acc out) (fun _ i _=>s.size+1 - (intOf i).toNat)
 case atStart=>exact⟨cH,[],rfl,aF.o⟩
 case round=>
  obtain⟨k,acc,rfl,ca⟩:=hrel;have b0:=ae ca;clear aF aG;obtain⟨A,c,aI,aA,_,_,_⟩:=bT ca.own;subst aI;have E:=ca.ir;have hle:=ca.le;clear ca;by_cases ao:k<s.size
  case neg=>
   have cx:k=s.size:=ad;have q:((k:Int) == (s.size:Int))=true:=by simp;omega
   have aZ:=ae (show db s.data.toList=(acc++[⟨5,[],0,(s.size:Int)⟩],(s.size:Int),0) by
    rw[←b0.B3,cx,GJ (by simp)];exact AJ _ _ _)
   subst cx;go_wp2_with ((at_builtin;refine dM wr nD rfl (.tmp 21) (.tmp 24) rfl w.heap.size _ _ _ #[.int .i64 5,.string ⟨#[]⟩,.int .i64 0,.int .i64 s.size] rfl b0.own rfl rfl (by simp[Value.oneCell']) ad ad b0.below.size ?_;intro v2 aQ d an G;obtain⟨A2,c2,rfl,R,_⟩:=bT d))
   go_ret3
   rw[aZ.o];refine⟨A2,acc.length+1,c2,rfl,R,lv (l:=acc++[⟨5,[],0,(s.size:Int)⟩]) (by rw[kn];exact d) (AI _) (by simp),?_⟩;exact gZ b0.below b0.own an (Gb _) b0.below.size
  have q:((k:Int) == (s.size:Int))=false:=by simp;omega
  have hc:=H.Cg b0.below;have aL:=hc.byte ao;have aM:=hc.lt;have U:∀(j:Nat) (ba:j<s.size) (cs:Array Value) (t:TypeId),(wr.alloc (.cells cs t)).cell? ⟨b,o+j,none⟩=some (.int .u8 (s[j].toNat:Int)):=fun j ba cs t=>(hc.on (GN.alloc _)).byte ba;have bs:=ae hc;have aC:=ae U;have b8:=U k ao #[.int .i64 0,.string ⟨#[]⟩,.int .i64 0,.int .i64 k] 203;clear hc U;go_wp2_with (fail);refine(kI s[k] _).mono ?_;rintro e ab ⟨rfl,rfl⟩;by_cases hl:bM s[k]=true
  ·rw[hl];have aH:=ae hl;clear hl b8;go_wp2_with (fail)
   go_loop [8] (fun e=>∃n:Nat,k+n≤s.size∧e=.int .i64 ((k:Int)+(n:Int))∧((s.data.toList.drop k).take n).all bY=true) (fun e=>s.size+1 - (intOf e).toNat)
   case atStart=>exact⟨0,ad,by simp,by simp⟩
   case round=>
    obtain⟨n,hn,rfl,y⟩:=hrel;have HA:=ae y;clear y;have dc:((k:Int)+(n:Int)).toNat=k+n:=ad;have ax:(0:Int)≤(k:Int)+(n:Int):=ad;by_cases cE:k+n<s.size
    ·have b2:=aC.o (k+n) cE #[.int .i64 0,.string ⟨#[]⟩,.int .i64 0,.int .i64 k] 203;have cc:(k:Int)+(n:Int)<(s.size:Int):=ad;go_wp2_with (fail);refine(kI s[k+n] _).mono ?_;rintro e ab ⟨rfl,rfl⟩;by_cases bR:bM s[k+n]=true
     ·rw[bR];have ct:=ae (nC (p:=bY) cE HA.o (by simp[bY,bR]));clear bR;go_wp2
      go_round
      case rel=>exact⟨n+1,ad,by simp;omega,ct.o⟩
      case measure=>simp[intOf];omega
     have aq:bM s[k+n]=false:=by simpa using bR
     rw[aq];have ak:=ae aq;clear bR aq;go_wp2_with (fail);refine(jU s[k+n] _).mono ?_;rintro e ab ⟨rfl,rfl⟩;by_cases bB:bp s[k+n]=true
     ·rw[bB];have ct:=ae (nC (p:=bY) cE HA.o (by simp[bY,bB]));clear bB;go_wp2
      go_round
      case rel=>exact⟨n+1,ad,by simp;omega,ct.o⟩
      case measure=>simp[intOf];omega
     have I:bp s[k+n]=false:=by simpa using bB
     rw[I];have S:bY s[k+n]=false:=by simp[bY,ak.o,I]
     have ap:=ae (show 0<n from by
      rcases Nat.eq_zero_or_pos n with h0|h0
      ·subst h0;have:=ak.o;simp only[Gl] at this;rw[aH.o] at this;cases this
      ·exact h0)
     have O:=ae (show ∀h:k+n<s.size,bY (s[k+n]'h)=false from fun _=>S);clear bB I S b2;exact CS
    ·have cc:decide ((k:Int)+(n:Int)<(s.size:Int))=false:=by simp;omega
     have ap:=ae (show 0<n by omega);have O:=ae (show ∀h:k+n<s.size,bY (s[k+n]'h)=false from fun h=>absurd h cE);exact CS
  have aa:bM s[k]=false:=by simpa using hl
  rw[aa];have aE:=ae aa;clear hl aa;go_wp2_with (fail);refine(jU s[k] _).mono ?_;rintro e ab ⟨rfl,rfl⟩;by_cases hd:bp s[k]=true
  ·rw[hd];have aD:=ae hd;clear hd b8;go_wp2_with (fail)
   go_loop [8] (fun e=>∃n:Nat,k+n≤s.size∧e=.int .i64 ((k:Int)+(n:Int))∧((s.data.toList.drop k).take n).all bp=true) (fun e=>s.size+1 - (intOf e).toNat)
   case atStart=>exact⟨0,ad,by simp,by simp⟩
   case round=>
    obtain⟨n,hn,rfl,y⟩:=hrel;have HA:=ae y;clear y;have dc:((k:Int)+(n:Int)).toNat=k+n:=ad;have ax:(0:Int)≤(k:Int)+(n:Int):=ad;by_cases cE:k+n<s.size
    ·have b2:=aC.o (k+n) cE #[.int .i64 0,.string ⟨#[]⟩,.int .i64 0,.int .i64 k] 203;have cc:(k:Int)+(n:Int)<(s.size:Int):=ad;go_wp2_with (fail);refine(jU s[k+n] _).mono ?_;rintro e ab ⟨rfl,rfl⟩;by_cases bB:bp s[k+n]=true
     ·rw[bB];have ct:=ae (nC (p:=bp) cE HA.o bB);clear bB;go_wp2
      go_round
      case rel=>exact⟨n+1,ad,by simp;omega,ct.o⟩
      case measure=>simp[intOf];omega
     have I:bp s[k+n]=false:=by simpa using bB
     rw[I];have ap:=ae (show 0<n from by
      rcases Nat.eq_zero_or_pos n with h0|h0
      ·subst h0;simp only[Gl] at I;rw[aD.o] at I;cases I
      ·exact h0)
     have O:=ae (show ∀h:k+n<s.size,bp (s[k+n]'h)=false from fun _=>I);clear bB I b2;exact CX
    ·have cc:decide ((k:Int)+(n:Int)<(s.size:Int))=false:=by simp;omega
     have ap:=ae (show 0<n by omega);have O:=ae (show ∀h:k+n<s.size,bp (s[k+n]'h)=false from fun h=>absurd h cE);exact CX
  have C:bp s[k]=false:=by simpa using hd
  rw[C];have aK:=ae C;clear hd C b8;go_wp2_with (fail);refine(Bf s b o cap k _ (bs.on (GN.alloc _)) ao).mono ?_;rintro e aQ ⟨rfl,bt⟩;have z:qQ wr aQ 0 0 k:=by
   have e1:Ext wr aQ:=(GN.alloc _).trans bt;have av:=(ag.new wr 203 #[.int .i64 0,.string ⟨#[]⟩,.int .i64 0,.int .i64 k]).al bt;exact⟨Fr.ext e1,av,av.lt⟩
  clear bt;have Q:=ae z;obtain⟨Z,au,aw⟩:=z.blk.two;clear z;have D:=ae (b0.B3.symm.trans (vr (f:=s.size - k) (acc:=acc) ao b0.skip aE.o aK.o));have ce:=Be (s.data.toList.drop k) (by rw[cI ao];simp);rw[k2] at ce;generalize eu (s.data.toList.drop k)=n at *;have hn:k+n≤s.size:=ad;by_cases bv:n=0
  ·have bI:(((k:Int)+(n:Int)) == (k:Int))=true:=by simp;omega
   have bh:=ae (D.trans (if_pos bv));have c6:(n:Int)=0:=ad;subst bv;clear D bI c6;go_wp2
   go_ret3
   exact iQ.bad bh.o (b0.below.trans ((Q.below.setCell (p:=⟨wr.heap.size,0,none⟩) (Gb _) _).mono b0.below.size))
  have bI:(((k:Int)+(n:Int)) == (k:Int))=false:=by simp;omega
  have bh:=ae (D.trans (if_neg bv));have u:0<n:=ad;clear D bv;go_upto_region 28 with(fail);generalize ah:World.setCell aQ _ _=X;have r:qQ wr X 4 0 k:=by
   rw[←ah];exact⟨Q.below.setCell (p:=⟨wr.heap.size,0,none⟩) (Gb _) _,Q.blk.aH 0 _,by simpa using Q.lt⟩
  clear ah Z au aw;have P:=ae r;obtain⟨bD,bE,b5⟩:=r.blk.two;clear r;by_cases bo:acc.length=4000
  ·have c7:((acc.length:Int) == 4000)=true:=by simp;omega
   have V:(acc.length == 4000)=true:=by simp;omega
   have aZ:=ae (bh.trans (if_pos bo));clear bo;go_wp2
   go_ret3
   exact iQ.bad aZ.o (b0.below.trans (P.below.mono b0.below.size))
  have c7:((acc.length:Int) == 4000)=false:=by simp;omega
  have V:(acc.length == 4000)=false:=by simp;omega
  have aZ:=ae (bh.trans (if_neg bo));have T:=ae bo;clear bo;have K:eG X b o cap s:=bs.Cg P.below;have aW:=fun W=>f6 (b:=b) (o:=o) M u hn W;have c3:=jb K (k:=k) (n:=n) (cap - k) hn;have ay:=ae K;clear K;go_upto_region 31 with(fail);generalize cb:World.setCell X _ _=Y;have N:Below wr.heap.size wr Y:=cb▸P.below.setCell (p:=⟨wr.heap.size,1,none⟩) (Gb _) _;have al:ag Y wr.heap.size 203 #[.int .i64 4,.string (s.extract k (k+n)),.int .i64 0,.int .i64 k]:=cb▸P.blk.aH 1 _;obtain⟨bA,af,aj⟩:=al.two;have x:=ae N;clear cb N al bD bE b5 aW c3;go_wp2_with ((at_builtin;refine dM Y nD rfl (.tmp 119) (.tmp 121) rfl w.heap.size _ _ _ #[.int .i64 4,.string (s.extract k (k+n)),.int .i64 0,.int .i64 k] rfl (cn b0.own x.o) rfl rfl (by simp[Value.oneCell']) ad ad (Gu b0.below.size x.size) ?_;intro v2 cJ d an G;obtain⟨A2,c2,rfl,R,_⟩:=bT d));have aB:Below w.heap.size w cJ:=gZ (b0.below.trans (x.mono b0.below.size)) (cn b0.own x.o) an (Gb _) (Gu b0.below.size x.size);have L:=ai aB d;clear aB d an G bA af aj;have g:=jL s b o cap (k+n) cJ (H.Cg L.1) hn;rw[Int.natCast_add] at g;refine g.mono ?_;clear g;rintro e ab ⟨rfl,rfl⟩;obtain⟨F,bF,az,b7,bK,cB⟩:=lC s (k+n) hn;rw[cB];have a8:=ai b7 bK;clear b7 bK cB;go_wp2;go_roundw
  case rel=>
   refine⟨F,acc++[⟨4,(s.data.toList.drop k).take n,0,(k:Int)⟩],rfl,b0.next (m:=k+n) ?_ T.o ad hn (b0.B3.trans aZ.o) L.1 bF az a8.1 a8.2⟩;have:=L.2;simpa [nK,kr] using this
  case measure=>simp[intOf];omega
end Go.Proofs.YtjhgbdckgkppnaaGreat
