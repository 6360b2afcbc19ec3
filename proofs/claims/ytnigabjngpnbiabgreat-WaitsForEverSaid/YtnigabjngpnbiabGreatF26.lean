/- Part 26 of the proof. No condition of its own. -/
import Derived.Test.YtnigabjngpnbiabGreatF25
namespace Go.Proofs.YtnigabjngpnbiabGreat
open Go.RowKit Go.Proofs.Tryz
set_option maxRecDepth 1000000
set_option maxHeartbeats 25600000
set_option linter.unusedVariables false
variable{cs:List Value}{P:Nat->Prop}{p:Prop}{w:World}
theorem px(g:ByteArray×Int):(iR g).sz=2:=rfl
theorem mW{g:ByteArray×Int}:(iR g).rep w P cs↔cs=[.string g.1,.int .i64 g.2]:=by
 unfold iR;rw[bK,cx];exact Eu
theorem uP(g:ByteArray×Bool):(cC g).sz=2:=rfl
theorem sc{g:ByteArray×Bool}:(cC g).rep w P cs↔cs=[.string g.1,.bool g.2]:=by
 exact Io
theorem qo(f:aI):(dA f).sz=3:=rfl
theorem kU{f:aI}(h:(dA f).rep w P cs):∃A n c B m d,cs=[.string f.name,.slice A n c,.slice B m d]/\Sl w P A n (f.params.map cC)/\Sl w P B m (dc f.body):=by
 unfold dA at h;rw[bK,cx] at h;obtain⟨y,rfl,h⟩:=h;obtain⟨A,n,c,cf,rfl,_,ac,h⟩:=aN.1 h;obtain⟨B,m,d,bv,rfl,_,az,h⟩:=aN.1 h;rw[aR] at h;subst h;exact⟨_,_,_,_,_,_,rfl,ac,az⟩
theorem tz(m:bM):(eF m).sz=3:=rfl
theorem jw(n:Int):l5 n=aV (h7 n):=rfl
structure gX(w:World)(P:Nat->Prop)(p:bN)(GA:NH)(gn:Nat)(MA:NH)(mn:Nat)(FA:NH)(fn:Nat):Prop where
 g:Sl w P GA gn (p.globals.map iR)
 m:Sl w P MA mn (p.af.map eF)
 f:Sl w P FA fn (p.funcs.map dA)
theorem pE(s:ByteArray):s.size=s.data.toList.length:=rfl
theorem xG(l:List (ByteArray×Bool))(k:Nat):(hO (l.take k)).length<=(hO (l.take (k+1))).length:=by
 cases h:l[k]? with
 | none=>rw[Nb (i:=k+1) (by have:=List.getElem?_eq_none_iff.1 h;omega),Nb (List.getElem?_eq_none_iff.1 h)];exact MU _
 | some a=>rw[q0 h];simp
theorem qZ(l:List (ByteArray×Bool)):∀j k:Nat,(hO (l.take k)).length<=(hO (l.take (k+j))).length
 | 0,k=>MU _
 | j+1,k=>Nl (qZ l j k) (xG l (k+j))
theorem vx(l:List (ByteArray×Bool))(k:Nat):(hO (l.take k)).length<=(hO l).length:=by
 by_cases h:k<=l.length
 .have:=qZ l (l.length - k) k;rw[show k+(l.length - k)=l.length by omega,List.take_length] at this;exact this
 .rw[Nb ad];exact MU _
structure yh(p:bN):Prop where
 inits:∀g∈p.globals,-9223372036854775808<=g.2/\g.2<=9223372036854775807
 gV:∀m∈p.af,m.size<=9223372036854775807
 src:∀f∈p.funcs,oh f.body/\f.body.num<=900000/\f.params.length<=1000
 len:(aV (fS p)).length<=262144
 jo:p.globals.length<=1000/\p.af.length<=1000/\p.funcs.length<=1000
theorem zR(b:al)(h:oh b):h1 b:=(LJ xk b h).1
namespace Di
theorem B7(h:p:=by
 generalize E:strOf (GT++(au++fD kE (p.funcs.take k)))=pre at *;have y:=ae E.symm;clear E;go_wp2;have aU:(((pre++(⟨#[102,117,110,99,32]⟩:ByteArray))++f.name)++(⟨#[40]⟩:ByteArray)).size<=600000:=by
  have co:(⟨#[102,117,110,99,32]⟩:ByteArray).size=5:=rfl;have e1:(⟨#[40]⟩:ByteArray).size=1:=rfl;simp only[ByteArray.size_append];omega
 generalize u:((pre++(⟨#[102,117,110,99,32]⟩:ByteArray))++f.name)++(⟨#[40]⟩:ByteArray)=ao at *;have Q:=ae u.symm;clear u a0 ak af aI K;go_loopw [3,9] (λsv bj b7=>∃j:Nat,j<=pn/\bj=.int .i64 j/\sv=.string (ao++strOf (hO (f.params.take j)))/\Ext w b7/\an b7 w 56 #[.slice GA gn gc,.slice MA mn mc,.slice (some ⟨b,o,none⟩) fn fc]/\Ext V b7) (λ_ bj _=>pn - (intOf bj).toNat)
 case atStart=>
  refine⟨0,ad,rfl,?_,bw.o,G.o,NC⟩;have:strOf (hO (f.params.take 0))=⟨#[]⟩:=rfl;rw[this];congr 1
  rw[ByteArray.ext_iff];simp
 case round=>
  obtain⟨j,bi,rfl,rfl,aF,aT,hV⟩:=hrel;obtain⟨R,v,Y⟩:=eU aF aT hV;obtain⟨a0,ak,af⟩:=(bY.aj hV).two;have aD:(strOf (hO (f.params.take j))).size<=262144:=by
   rw[aC];exact Nl (vx f.params j) bg.o
  by_cases X:j<pn
  .obtain⟨pb,gR,q,cs,rfl,bl,am,bG,bu,Z⟩:=(gN.on (Fr.ext hV)).g1 uP X;obtain rfl:=sc.1 bG;have c0:=Z 0 _ rfl;have c1:=Z 1 _ rfl;simp only[Nd] at c0;have N:pb<_:=bl;obtain⟨cq,qm⟩:=q;have cv:=q0 am;have T:cq.size<=262144:=by
    have ac:=vx f.params (j+1);have az:=bg.o;rw[cv] at ac;simp only[M3] at ac;rw[pE];omega
   simp only at cv c0 c1 T;have aa:=ae cv;clear aF aT hV bu Z am bG bl cv;by_cases h0:0<j
   .have q1:decide ((j:Int) > 0)=true:=by simp;omega
    cases qm
    all_goals
     go_wp2;go_roundw
     case rel=>
      refine⟨j+1,ad,by go_num,?_,R.o,v.o,Y.o⟩;rw[aa.o,if_pos h0];congr 1
      simp only[show (⟨#[44,32]⟩:ByteArray)=strOf [44,32] from rfl,show (⟨#[109,117,116,101,120,32]⟩:ByteArray)=strOf [109,117,116,101,120,32] from rfl];exact AY
     case measure=>exact aH
   .have q1:decide ((j:Int) > 0)=false:=by simp;omega
    cases qm
    all_goals
     go_wp2;go_roundw
     case rel=>
      refine⟨j+1,ad,by go_num,?_,R.o,v.o,Y.o⟩;rw[aa.o,if_neg h0];congr 1
      try simp only[show (⟨#[109,117,116,101,120,32]⟩:ByteArray)=strOf [109,117,116,101,120,32] from rfl]
      exact AY
     case measure=>exact aH
  .obtain rfl:pn=j:=ad;have aw:=ae (show hO (f.params.take pn)=hO f.params by rw[<-aq.o,List.take_length]);rw[aw.o] at aD ⊢;clear aF aT hV X;go_wp2_with(fail);refine((show h1 f.body from U.1) 1 f0 bn bc _ (ax U.2) (dv.on (Fr.ext Y.o)) H.o).mono ?_;rintro e hT ⟨rfl,S⟩;have cz:=ae (R.trans S);have P:=ae (v.aj S);clear S a0 ak af;go_wp2;go_roundw
   case rel=>
    refine⟨k+1,ad,by go_num,?_,cz.o,P.o⟩;obtain⟨cD,bd⟩:=i.o;rw[Q.o,y.o,cD,bd];congr 1
    simp only[show (⟨#[102,117,110,99,32]⟩:ByteArray)=strOf [102,117,110,99,32] from rfl,show (⟨#[40]⟩:ByteArray)=strOf [40] from rfl,show (⟨#[41,32,123,10]⟩:ByteArray)=strOf [41,32,123,10] from rfl,show (⟨#[125,10]⟩:ByteArray)=strOf [125,10] from rfl];conv=>lhs;rw[<-dk f.name]
    simp only[ag];simp
   case measure=>exact aH
 ):p:=h
theorem wI(h:p:=by
 have hlen:=hp.len;have c5:gn<=1000:=by have:=hp.jo;omega
 have cE:mn<=1000:=by have:=hp.jo;omega
 have dE:fn<=1000:=by have:=hp.jo;omega
 rw[sH] at hlen;simp only[M3] at hlen;rw[sH];obtain⟨ck,I,dX,bZ⟩:=jl hp aR hm J;have bT:=ay ds lm lf;have F:=ae hlen;clear h aR hm J ds lm lf hlen hp;go_enter func82,ntmps82;go_wp2;generalize be:World.alloc _ _=W;have aF:=aX be;have aT:=aL be;clear be;obtain⟨bk,bL⟩:=aJ aF aT;clear aF aT;go_loopw [3,4] (λsv L wr=>∃k:Nat,k<=gn/\L=.int .i64 k/\sv=.string (strOf (fD ih (p.globals.take k)))/\Ext w wr/\an wr w 56 #[.slice GA gn gc,.slice MA mn mc,.slice FA fn fc]) (λ_ L _=>gn - (intOf L).toNat)
 case atStart=>exact⟨0,ad,rfl,rfl,bk.o,bL.o⟩
 case round=>
  obtain⟨k,aj,rfl,rfl,aF,aT⟩:=hrel;clear bk bL;obtain⟨bk,bL⟩:=aJ aF aT;obtain⟨a0,ak,af⟩:=aT.two;have aI:(strOf (fD ih (p.globals.take k))).size<=262144:=by
   rw[aC];have ac:=lh ih p.globals k;have az:=F.o;omega
  by_cases ap:k<gn
  .obtain⟨b,o,g,cs,rfl,O,r,al,bu,Z⟩:=(I.on (Fr.ext aF)).g1 px ap;obtain rfl:=mW.1 al;have c0:=Z 0 _ rfl;have c1:=Z 1 _ rfl;simp only[Nd] at c0;have aZ:b<wr:=O;obtain⟨nm,z⟩:=g;have ba:=ck.inits _ (M4 r);have cD:=nJ (f:=ih) r;have bd:=E9 (nm,z);have hle:=lh ih p.globals (k+1);have l:(fD ih (p.globals.take (k+1))).length<=262144:=by have:=F.o;omega
   rw[cD,bd] at l;simp only[M3] at l;have K:nm.size<=262144:=by rw[pE];omega
   simp only at ba bd c0 c1 K;by_cases h0:z=0
   .subst h0;have aS:=ae (show ((strOf (fD ih (p.globals.take k))++(⟨#[118,97,114,32]⟩:ByteArray))++nm)++(⟨#[59,10]⟩:ByteArray)=strOf (fD ih (p.globals.take (k+1))) by
     rw[cD,bd,show (⟨#[118,97,114,32]⟩:ByteArray)=strOf [118,97,114,32] from rfl,show (⟨#[59,10]⟩:ByteArray)=strOf [59,10] from rfl];conv=>lhs;rw[<-dk nm]
     rw[ag,ag,ag];simp)
    clear aF aT r al bu Z cD bd hle l ba O;go_wp2;go_roundw
    case rel=>exact⟨k+1,ad,by go_num,by rw[<-aS.o],bk.o,bL.o⟩
    case measure=>exact aH
   .have q1:(z != 0)=true:=by simpa using h0
    have cL:(z == 0)=false:=by simpa using h0
    rw[if_neg h0] at bd l;simp only[M3] at l;have s:(strOf (l5 z)).size<=262144:=by rw[aC,jw];omega
    have aS:=ae (show ((((strOf (fD ih (p.globals.take k))++(⟨#[118,97,114,32]⟩:ByteArray))++nm)++(⟨#[32,61,32]⟩:ByteArray))++strOf (l5 z))++(⟨#[59,10]⟩:ByteArray)=strOf (fD ih (p.globals.take (k+1))) by
     rw[cD,bd,show (⟨#[118,97,114,32]⟩:ByteArray)=strOf [118,97,114,32] from rfl,show (⟨#[59,10]⟩:ByteArray)=strOf [59,10] from rfl,show (⟨#[32,61,32]⟩:ByteArray)=strOf [32,61,32] from rfl,jw];conv=>lhs;rw[<-dk nm]
     rw[ag,ag,ag,ag,ag];simp)
    clear aF aT r al bu Z cD bd hle l O h0;go_wp2_with(fail);refine(mC z _ ba).mono ?_;rintro e aO ⟨rfl,ar⟩;have bw:=ae (bk.trans (Fr.of ar));have G:=ae (bL.aj (Fr.of ar));clear ar a0 ak af c0 c1;go_wp2;go_roundw
    case rel=>exact⟨k+1,ad,by go_num,by rw[<-aS.o],bw.o,G.o⟩
    case measure=>exact aH
  .obtain rfl:gn=k:=ad;have n:=ae (show fD ih (p.globals.take gn)=fD ih p.globals by rw[<-bT.1,List.take_length]);rw[n.o] at aI ⊢;clear aF aT;generalize aA:fD ih p.globals=GT at *;go_wp2;clear a0 ak af n;go_loopw [3,5] (λsv L wr=>∃k:Nat,k<=mn/\L=.int .i64 k/\sv=.string (strOf (GT++fD kG (p.af.take k)))/\Ext w wr/\an wr w 56 #[.slice GA gn gc,.slice MA mn mc,.slice FA fn fc]) (λ_ L _=>mn - (intOf L).toNat)
   case atStart=>exact⟨0,ad,rfl,by simp[fD],bk.o,bL.o⟩
   case round=>
    obtain⟨k,aj,rfl,rfl,aF,aT⟩:=hrel;clear bk bL aI;obtain⟨bk,bL⟩:=aJ aF aT;obtain⟨a0,ak,af⟩:=aT.two;have aI:(strOf (GT++fD kG (p.af.take k))).size<=262144:=by
     rw[aC,M3];have ac:=lh kG p.af k;have az:=F.o;omega
    by_cases cG:k<mn
    .obtain⟨b,o,m,cs,rfl,O,r,al,bu,Z⟩:=(dX.on (Fr.ext aF)).g1 tz cG;obtain rfl:=fv.1 al;have c0:=Z 0 _ rfl;have c1:=Z 1 _ rfl;have c2:=Z 2 _ rfl;simp only[Nd] at c0;have aZ:b<wr:=O;obtain⟨nm,re,z⟩:=m;have ba:=ck.gV _ (M4 r);have cD:=nJ (f:=kG) r;have bd:=Fq ⟨nm,re,z⟩;have hle:=lh kG p.af (k+1);have l:GT.length+(fD kG (p.af.take (k+1))).length<=262144:=by have:=F.o;omega
     rw[cD,bd] at l;simp only[M3] at l;have K:nm.size<=262144:=by rw[pE];omega
     simp only at ba bd c0 c1 c2 K;have s:0<z->(strOf (l5 z)).size<=262144:=λh0=>by
      rw[if_pos h0] at l;simp only[M3] at l;rw[aC,jw];omega
     clear bu Z hle l r al O aF aT;have M:=ae cD;go_upto_region 13 with(fail);generalize hV:World.alloc _ _=V;have ai:=aX hV;have bw:=ae (bk.trans ai);have G:=ae (bL.aj ai);have hC:=aL hV;clear hV a0 ak af c0 c1 c2 aZ bk bL ai cD;obtain⟨a0,ak,af⟩:=hC.two;clear hC;cases re
     all_goals
      by_cases h0:0<z
      .rw[if_pos h0] at bd;have b8:=s h0;have q1:decide (z > 0)=true:=by simpa using h0
       have df:-9223372036854775808<=z/\z<=9223372036854775807:=ad;have i:=ae bd;clear bd h0 s;go_wp2_with(fail);refine(mC z _ df).mono ?_;rintro e aO ⟨rfl,ar⟩;have a8:=ae (bw.trans (Fr.of ar));have cb:=ae (G.aj (Fr.of ar));clear ar a0 ak af;go_wp2;go_roundw
       case rel=>
        refine⟨k+1,ad,by go_num,?_,a8.o,cb.o⟩;rw[M.o,i.o,<-jw];congr 1
        simp only[show (⟨#[114]⟩:ByteArray)=strOf [114] from rfl,show (⟨#[109,117,116,101,120,32]⟩:ByteArray)=strOf [109,117,116,101,120,32] from rfl,show (⟨#[91]⟩:ByteArray)=strOf [91] from rfl,show (⟨#[93]⟩:ByteArray)=strOf [93] from rfl,show (⟨#[59,10]⟩:ByteArray)=strOf [59,10] from rfl];conv=>lhs;rw[<-dk nm]
        simp only[ag];simp
       case measure=>exact aH
      .rw[if_neg h0] at bd;have q1:decide (z > 0)=false:=by simp;omega
       have i:=ae bd;clear bd h0 s ba;go_wp2;go_roundw
       case rel=>
        refine⟨k+1,ad,by go_num,?_,bw.o,G.o⟩;rw[M.o,i.o];congr 1
        simp only[show (⟨#[114]⟩:ByteArray)=strOf [114] from rfl,show (⟨#[109,117,116,101,120,32]⟩:ByteArray)=strOf [109,117,116,101,120,32] from rfl,show (⟨#[59,10]⟩:ByteArray)=strOf [59,10] from rfl];conv=>lhs;rw[<-dk nm]
        simp only[ag];simp
       case measure=>exact aH
    .obtain rfl:mn=k:=ad;have n:=ae (show fD kG (p.af.take mn)=fD kG p.af by rw[<-bT.2.1,List.take_length]);rw[n.o] at aI ⊢;clear aF aT;generalize aB:fD kG p.af=au at *;go_wp2;clear a0 ak af n;go_loopw [3,7] (λsv L wr=>∃k:Nat,k<=fn/\L=.int .i64 k/\sv=.string (strOf (GT++(au++fD kE (p.funcs.take k))))/\Ext w wr/\an wr w 56 #[.slice GA gn gc,.slice MA mn mc,.slice FA fn fc]) (λ_ L _=>fn - (intOf L).toNat)
     case atStart=>exact⟨0,ad,rfl,by simp[fD],bk.o,bL.o⟩
     case round=>
      obtain⟨k,aj,rfl,rfl,aF,aT⟩:=hrel;clear bk bL aI;obtain⟨bk,bL⟩:=aJ aF aT;obtain⟨a0,ak,af⟩:=aT.two;have aI:(strOf (GT++(au++fD kE (p.funcs.take k)))).size<=262144:=by
       rw[aC,M3,M3];have ac:=lh kE p.funcs k;have az:=F.o;omega
      by_cases cn:k<fn
      .obtain⟨b,o,f,cs,rfl,O,r,al,bu,Z⟩:=(bZ.on (Fr.ext aF)).g1 qo cn;obtain⟨PA,pn,pc,f0,bn,bc,rfl,cc,bA⟩:=kU al;have c0:=Z 0 _ rfl;have c1:=Z 1 _ rfl;have c2:=Z 2 _ rfl;simp only[Nd] at c0;have aZ:b<wr:=O;have ba:=ck.src _ (M4 r);have cD:=nJ (f:=kE) r;have bd:=EY f;have hle:=lh kE p.funcs (k+1);have l:GT.length+(au.length+(fD kE (p.funcs.take (k+1))).length)<=262144:=by have:=F.o;omega
       rw[cD,bd] at l;simp only[M3] at l;have K:f.name.size<=262144:=by rw[pE];omega
       have bb:(hO f.params).length<=262144:=ad;have bK:(cJ 1 f.body).length<=262144:=ad;have bo:f.params.length=pn:=by rw[<-cc.1,M5]
       have gM:pn<=1000:=ad;obtain⟨bg,H,aq⟩:=eU bb bK bo;have U:=ah (zR f.body ba.1) ba.2.1;have aE:(strOf (cJ 1 f.body)).size<=262144:=by rw[aC];exact bK
       have i:=ah cD bd;clear bu Z hle l r al O aF aT cD bd ba bb bK bo;go_upto_region 23 with(fail);exact B6
      .obtain rfl:fn=k:=ad;have n:=ae (show fD kE (p.funcs.take fn)=fD kE p.funcs by rw[<-bT.2.2,List.take_length]);rw[n.o];clear aF aT;go_wp2;go_ret;exact⟨ret_str (by rw[<-aA,<-aB]),bk.o⟩
 ):p:=h
end Di
open Di in
theorem vv(p:bN)(hp:yh p)(GA:NH)(gn gc:Nat)(MA:NH)(mn mc:Nat)(FA:NH)(fn fc:Nat)(w:World)(h:gX w (av w) p GA gn MA mn FA fn) :
  Calls prog 82 #[.agg #[.slice GA gn gc,.slice MA mn mc,.slice FA fn fc]] w λe ab=>e=.returned (.string (strOf (aV (fS p))))/\Ext w ab:=by
 exact wH
end Go.Proofs.YtnigabjngpnbiabGreat
