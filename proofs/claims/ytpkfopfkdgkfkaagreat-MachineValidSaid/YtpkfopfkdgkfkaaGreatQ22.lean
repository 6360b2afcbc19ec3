/- Part 22 of the proof. No condition of its own. -/
import Derived.Test.YtpkfopfkdgkfkaaGreatQ20
namespace Go.Proofs.YtpkfopfkdgkfkaaGreat
open Go.RowKit Go.Proofs.Tryz
set_option maxRecDepth 1000000
set_option maxHeartbeats 25600000
set_option linter.unusedVariables false
variable{cs:List Value}{P:Nat->Prop}{p:Prop}{w:World}
theorem oR(g:ByteArray×Int):(iG g).sz=2:=rfl
theorem mE{g:ByteArray×Int}:(iG g).rep w P cs↔cs=[.string g.1,.int .i64 g.2]:=by
 unfold iG;rw[bN,cu];exact DY
theorem tU(g:ByteArray×Bool):(cD g).sz=2:=rfl
theorem rE{g:ByteArray×Bool}:(cD g).rep w P cs↔cs=[.string g.1,.bool g.2]:=by
 exact HG
theorem pS(f:aL):(dD f).sz=3:=rfl
theorem kJ{f:aL}(h:(dD f).rep w P cs):∃A n c B m d,cs=[.string f.name,.slice A n c,.slice B m d]/\Sl w P A n (f.params.map cD)/\Sl w P B m (dc f.body):=by
 unfold dD at h;rw[bN,cu] at h;obtain⟨y,rfl,h⟩:=h;obtain⟨A,n,c,cX,rfl,_,ac,h⟩:=aO.1 h;obtain⟨B,m,d,bx,rfl,_,ap,h⟩:=aO.1 h;rw[aR] at h;subst h;exact⟨_,_,_,_,_,_,rfl,ac,ap⟩
theorem sV(m:bM):(eK m).sz=3:=rfl
theorem jh(n:Int):lM n=aV (hZ n):=rfl
structure hL(w:World)(P:Nat->Prop)(p:bQ)(GA:Mt)(gn:Nat)(MA:Mt)(mn:Nat)(FA:Mt)(fn:Nat):Prop where
 g:Sl w P GA gn (p.globals.map iG)
 m:Sl w P MA mn (p.af.map eK)
 f:Sl w P FA fn (p.funcs.map dD)
theorem oY(s:ByteArray):s.size=s.data.toList.length:=rfl
theorem w2(l:List (ByteArray×Bool))(k:Nat):(hv (l.take k)).length<=(hv (l.take (k+1))).length:=by
 cases h:l[k]? with
 | none=>rw[LS (i:=k+1) (by have:=List.getElem?_eq_none_iff.1 h;omega),LS (List.getElem?_eq_none_iff.1 h)];exact LK _
 | some a=>rw[qx h];simp
theorem qw(l:List (ByteArray×Bool)):∀j k:Nat,(hv (l.take k)).length<=(hv (l.take (k+j))).length
 | 0,k=>LK _
 | j+1,k=>L6 (qw l j k) (w2 l (k+j))
theorem uE(l:List (ByteArray×Bool))(k:Nat):(hv (l.take k)).length<=(hv l).length:=by
 by_cases h:k<=l.length
 .have:=qw l (l.length - k) k;rw[show k+(l.length - k)=l.length by omega,List.take_length] at this;exact this
 .rw[LS ad];exact LK _
structure xG(p:bQ):Prop where
 inits:∀g∈p.globals,-9223372036854775808<=g.2/\g.2<=9223372036854775807
 eD:∀m∈p.af,m.size<=9223372036854775807
 src:∀f∈p.funcs,nM f.body/\f.body.num<=900000/\f.params.length<=1000
 len:(aV (fS p)).length<=262144
 ja:p.globals.length<=1000/\p.af.length<=1000/\p.funcs.length<=1000
theorem yY(b:ao)(h:nM b):hJ b:=(KD wD b h).1
namespace Dg
theorem Bk(h:p:=by
 generalize E:strOf (GT++(am++fA kr (p.funcs.take k)))=pre at *;have y:=ae E.symm;clear E;go_wp2;have bI:(((pre++(⟨#[102,117,110,99,32]⟩:ByteArray))++f.name)++(⟨#[40]⟩:ByteArray)).size<=600000:=by
  have co:(⟨#[102,117,110,99,32]⟩:ByteArray).size=5:=rfl;have e1:(⟨#[40]⟩:ByteArray).size=1:=rfl;simp only[ByteArray.size_append];omega
 generalize K:((pre++(⟨#[102,117,110,99,32]⟩:ByteArray))++f.name)++(⟨#[40]⟩:ByteArray)=al at *;have S:=ae K.symm;clear K a0 ai af aL M;go_loopw [3,9] (λsv bY bM=>∃j:Nat,j<=pn/\bY=.int .i64 j/\sv=.string (al++strOf (hv (f.params.take j)))/\Ext w bM/\au bM w 31 #[.slice GA gn gc,.slice MA mn mc,.slice (some ⟨b,o,none⟩) fn fc]/\Ext V bM) (λ_ bY _=>pn - (intOf bY).toNat)
 case atStart=>
  refine⟨0,ad,rfl,?_,bB.o,G.o,Mo⟩;have:strOf (hv (f.params.take 0))=⟨#[]⟩:=rfl;rw[this];congr 1
  rw[ByteArray.ext_iff];simp
 case round=>
  obtain⟨j,bd,rfl,rfl,aw,aQ,hV⟩:=hrel;obtain⟨v,u,X⟩:=ef aw aQ hV;obtain⟨a0,ai,af⟩:=(bU.aj hV).two;have aB:(strOf (hv (f.params.take j))).size<=262144:=by
   rw[aP];exact L6 (uE f.params j) R.o
  by_cases Q:j<pn
  .obtain⟨pb,gU,q,cs,rfl,cZ,Y,bL,bh,a4⟩:=(b7.on (Fr.ext hV)).hf tU Q;obtain rfl:=rE.1 bL;have c0:=a4 0 _ rfl;have c1:=a4 1 _ rfl;simp only[LW] at c0;have bg:pb<_:=cZ;obtain⟨b1,qm⟩:=q;have cG:=qx Y;have T:b1.size<=262144:=by
    have ac:=uE f.params (j+1);have ap:=R.o;rw[cG] at ac;simp only[LM] at ac;rw[oY];omega
   simp only at cG c0 c1 T;have aa:=ae cG;clear aw aQ hV bh a4 Y bL cZ cG;by_cases h0:0<j
   .have q1:decide ((j:Int) > 0)=true:=by simp;omega
    cases qm
    all_goals
     go_wp2;go_roundw
     case rel=>
      refine⟨j+1,ad,by go_num,?_,v.o,u.o,X.o⟩;rw[aa.o,if_pos h0];congr 1
      simp only[show (⟨#[44,32]⟩:ByteArray)=strOf [44,32] from rfl,show (⟨#[109,117,116,101,120,32]⟩:ByteArray)=strOf [109,117,116,101,120,32] from rfl];exact Ab
     case measure=>exact aH
   .have q1:decide ((j:Int) > 0)=false:=by simp;omega
    cases qm
    all_goals
     go_wp2;go_roundw
     case rel=>
      refine⟨j+1,ad,by go_num,?_,v.o,u.o,X.o⟩;rw[aa.o,if_neg h0];congr 1
      try simp only[show (⟨#[109,117,116,101,120,32]⟩:ByteArray)=strOf [109,117,116,101,120,32] from rfl]
      exact Ab
     case measure=>exact aH
  .obtain rfl:pn=j:=ad;have av:=ae (show hv (f.params.take pn)=hv f.params by rw[<-aN.o,List.take_length]);rw[av.o] at aB ⊢;clear aw aQ hV Q;go_wp2_with(fail);refine((show hJ f.body from Z.1) 1 ce bn bc _ (ay Z.2) (dr.on (Fr.ext X.o)) H.o).mono ?_;rintro e gW ⟨rfl,U⟩;have eK:=ae (v.trans U);have N:=ae (u.aj U);clear U a0 ai af;go_wp2;go_roundw
   case rel=>
    refine⟨k+1,ad,by go_num,?_,eK.o,N.o⟩;obtain⟨cC,ak⟩:=i.o;rw[S.o,y.o,cC,ak];congr 1
    simp only[show (⟨#[102,117,110,99,32]⟩:ByteArray)=strOf [102,117,110,99,32] from rfl,show (⟨#[40]⟩:ByteArray)=strOf [40] from rfl,show (⟨#[41,32,123,10]⟩:ByteArray)=strOf [41,32,123,10] from rfl,show (⟨#[125,10]⟩:ByteArray)=strOf [125,10] from rfl];conv=>lhs;rw[<-dk f.name]
    simp only[ah];simp
   case measure=>exact aH
 ):p:=h
theorem vG(h:p:=by
 have hlen:=hp.len;have c8:gn<=1000:=by have:=hp.ja;omega
 have aZ:mn<=1000:=by have:=hp.ja;omega
 have dL:fn<=1000:=by have:=hp.ja;omega
 rw[rX] at hlen;simp only[LM] at hlen;rw[rX];obtain⟨ct,I,cU,b3⟩:=iY hp aR hm J;have b6:=az dx lm lf;have F:=ae hlen;clear h aR hm J dx lm lf hlen hp;go_enter func70,ntmps70;go_wp2;generalize ba:World.alloc _ _=W;have aw:=aU ba;have aQ:=aI ba;clear ba;obtain⟨br,b9⟩:=aJ aw aQ;clear aw aQ;go_loopw [3,4] (λsv bH wr=>∃k:Nat,k<=gn/\bH=.int .i64 k/\sv=.string (strOf (fA h8 (p.globals.take k)))/\Ext w wr/\au wr w 31 #[.slice GA gn gc,.slice MA mn mc,.slice FA fn fc]) (λ_ bH _=>gn - (intOf bH).toNat)
 case atStart=>exact⟨0,ad,rfl,rfl,br.o,b9.o⟩
 case round=>
  obtain⟨k,aj,rfl,rfl,aw,aQ⟩:=hrel;clear br b9;obtain⟨br,b9⟩:=aJ aw aQ;obtain⟨a0,ai,af⟩:=aQ.two;have aL:(strOf (fA h8 (p.globals.take k))).size<=262144:=by
   rw[aP];have ac:=k0 h8 p.globals k;have ap:=F.o;omega
  by_cases an:k<gn
  .obtain⟨b,o,g,cs,rfl,O,r,a6,bh,a4⟩:=(I.on (Fr.ext aw)).hf oR an;obtain rfl:=mE.1 a6;have c0:=a4 0 _ rfl;have c1:=a4 1 _ rfl;simp only[LW] at c0;have a1:b<wr:=O;obtain⟨nm,z⟩:=g;have a5:=ct.inits _ (LN r);have cC:=nh (f:=h8) r;have ak:=EC (nm,z);have hle:=k0 h8 p.globals (k+1);have l:(fA h8 (p.globals.take (k+1))).length<=262144:=by have:=F.o;omega
   rw[cC,ak] at l;simp only[LM] at l;have M:nm.size<=262144:=by rw[oY];omega
   simp only at a5 ak c0 c1 M;by_cases h0:z=0
   .subst h0;have aK:=ae (show ((strOf (fA h8 (p.globals.take k))++(⟨#[118,97,114,32]⟩:ByteArray))++nm)++(⟨#[59,10]⟩:ByteArray)=strOf (fA h8 (p.globals.take (k+1))) by
     rw[cC,ak,show (⟨#[118,97,114,32]⟩:ByteArray)=strOf [118,97,114,32] from rfl,show (⟨#[59,10]⟩:ByteArray)=strOf [59,10] from rfl];conv=>lhs;rw[<-dk nm]
     rw[ah,ah,ah];simp)
    clear aw aQ r a6 bh a4 cC ak hle l a5 O;go_wp2;go_roundw
    case rel=>exact⟨k+1,ad,by go_num,by rw[<-aK.o],br.o,b9.o⟩
    case measure=>exact aH
   .have q1:(z != 0)=true:=by simpa using h0
    have cJ:(z == 0)=false:=by simpa using h0
    rw[if_neg h0] at ak l;simp only[LM] at l;have s:(strOf (lM z)).size<=262144:=by rw[aP,jh];omega
    have aK:=ae (show ((((strOf (fA h8 (p.globals.take k))++(⟨#[118,97,114,32]⟩:ByteArray))++nm)++(⟨#[32,61,32]⟩:ByteArray))++strOf (lM z))++(⟨#[59,10]⟩:ByteArray)=strOf (fA h8 (p.globals.take (k+1))) by
     rw[cC,ak,show (⟨#[118,97,114,32]⟩:ByteArray)=strOf [118,97,114,32] from rfl,show (⟨#[59,10]⟩:ByteArray)=strOf [59,10] from rfl,show (⟨#[32,61,32]⟩:ByteArray)=strOf [32,61,32] from rfl,jh];conv=>lhs;rw[<-dk nm]
     rw[ah,ah,ah,ah,ah];simp)
    clear aw aQ r a6 bh a4 cC ak hle l O h0;go_wp2_with(fail);refine(mb z _ a5).mono ?_;rintro e aS ⟨rfl,ar⟩;have bB:=ae (br.trans (Fr.of ar));have G:=ae (b9.aj (Fr.of ar));clear ar a0 ai af c0 c1;go_wp2;go_roundw
    case rel=>exact⟨k+1,ad,by go_num,by rw[<-aK.o],bB.o,G.o⟩
    case measure=>exact aH
  .obtain rfl:gn=k:=ad;have n:=ae (show fA h8 (p.globals.take gn)=fA h8 p.globals by rw[<-b6.1,List.take_length]);rw[n.o] at aL ⊢;clear aw aQ;generalize ax:fA h8 p.globals=GT at *;go_wp2;clear a0 ai af n;go_loopw [3,5] (λsv bH wr=>∃k:Nat,k<=mn/\bH=.int .i64 k/\sv=.string (strOf (GT++fA ks (p.af.take k)))/\Ext w wr/\au wr w 31 #[.slice GA gn gc,.slice MA mn mc,.slice FA fn fc]) (λ_ bH _=>mn - (intOf bH).toNat)
   case atStart=>exact⟨0,ad,rfl,by simp[fA],br.o,b9.o⟩
   case round=>
    obtain⟨k,aj,rfl,rfl,aw,aQ⟩:=hrel;clear br b9 aL;obtain⟨br,b9⟩:=aJ aw aQ;obtain⟨a0,ai,af⟩:=aQ.two;have aL:(strOf (GT++fA ks (p.af.take k))).size<=262144:=by
     rw[aP,LM];have ac:=k0 ks p.af k;have ap:=F.o;omega
    by_cases cg:k<mn
    .obtain⟨b,o,m,cs,rfl,O,r,a6,bh,a4⟩:=(cU.on (Fr.ext aw)).hf sV cg;obtain rfl:=ft.1 a6;have c0:=a4 0 _ rfl;have c1:=a4 1 _ rfl;have c2:=a4 2 _ rfl;simp only[LW] at c0;have a1:b<wr:=O;obtain⟨nm,re,z⟩:=m;have a5:=ct.eD _ (LN r);have cC:=nh (f:=ks) r;have ak:=EV ⟨nm,re,z⟩;have hle:=k0 ks p.af (k+1);have l:GT.length+(fA ks (p.af.take (k+1))).length<=262144:=by have:=F.o;omega
     rw[cC,ak] at l;simp only[LM] at l;have M:nm.size<=262144:=by rw[oY];omega
     simp only at a5 ak c0 c1 c2 M;have s:0<z->(strOf (lM z)).size<=262144:=λh0=>by
      rw[if_pos h0] at l;simp only[LM] at l;rw[aP,jh];omega
     clear bh a4 hle l r a6 O aw aQ;have P:=ae cC;go_upto_region 13 with(fail);generalize hV:World.alloc _ _=V;have L:=aU hV;have bB:=ae (br.trans L);have G:=ae (b9.aj L);have hC:=aI hV;clear hV a0 ai af c0 c1 c2 a1 br b9 L cC;obtain⟨a0,ai,af⟩:=hC.two;clear hC;cases re
     all_goals
      by_cases h0:0<z
      .rw[if_pos h0] at ak;have cb:=s h0;have q1:decide (z > 0)=true:=by simpa using h0
       have df:-9223372036854775808<=z/\z<=9223372036854775807:=ad;have i:=ae ak;clear ak h0 s;go_wp2_with(fail);refine(mb z _ df).mono ?_;rintro e aS ⟨rfl,ar⟩;have a8:=ae (bB.trans (Fr.of ar));have bz:=ae (G.aj (Fr.of ar));clear ar a0 ai af;go_wp2;go_roundw
       case rel=>
        refine⟨k+1,ad,by go_num,?_,a8.o,bz.o⟩;rw[P.o,i.o,<-jh];congr 1
        simp only[show (⟨#[114]⟩:ByteArray)=strOf [114] from rfl,show (⟨#[109,117,116,101,120,32]⟩:ByteArray)=strOf [109,117,116,101,120,32] from rfl,show (⟨#[91]⟩:ByteArray)=strOf [91] from rfl,show (⟨#[93]⟩:ByteArray)=strOf [93] from rfl,show (⟨#[59,10]⟩:ByteArray)=strOf [59,10] from rfl];conv=>lhs;rw[<-dk nm]
        simp only[ah];simp
       case measure=>exact aH
      .rw[if_neg h0] at ak;have q1:decide (z > 0)=false:=by simp;omega
       have i:=ae ak;clear ak h0 s a5;go_wp2;go_roundw
       case rel=>
        refine⟨k+1,ad,by go_num,?_,bB.o,G.o⟩;rw[P.o,i.o];congr 1
        simp only[show (⟨#[114]⟩:ByteArray)=strOf [114] from rfl,show (⟨#[109,117,116,101,120,32]⟩:ByteArray)=strOf [109,117,116,101,120,32] from rfl,show (⟨#[59,10]⟩:ByteArray)=strOf [59,10] from rfl];conv=>lhs;rw[<-dk nm]
        simp only[ah];simp
       case measure=>exact aH
    .obtain rfl:mn=k:=ad;have n:=ae (show fA ks (p.af.take mn)=fA ks p.af by rw[<-b6.2.1,List.take_length]);rw[n.o] at aL ⊢;clear aw aQ;generalize aA:fA ks p.af=am at *;go_wp2;clear a0 ai af n;go_loopw [3,7] (λsv bH wr=>∃k:Nat,k<=fn/\bH=.int .i64 k/\sv=.string (strOf (GT++(am++fA kr (p.funcs.take k))))/\Ext w wr/\au wr w 31 #[.slice GA gn gc,.slice MA mn mc,.slice FA fn fc]) (λ_ bH _=>fn - (intOf bH).toNat)
     case atStart=>exact⟨0,ad,rfl,by simp[fA],br.o,b9.o⟩
     case round=>
      obtain⟨k,aj,rfl,rfl,aw,aQ⟩:=hrel;clear br b9 aL;obtain⟨br,b9⟩:=aJ aw aQ;obtain⟨a0,ai,af⟩:=aQ.two;have aL:(strOf (GT++(am++fA kr (p.funcs.take k)))).size<=262144:=by
       rw[aP,LM,LM];have ac:=k0 kr p.funcs k;have ap:=F.o;omega
      by_cases aX:k<fn
      .obtain⟨b,o,f,cs,rfl,O,r,a6,bh,a4⟩:=(b3.on (Fr.ext aw)).hf pS aX;obtain⟨PA,pn,pc,ce,bn,bc,rfl,bO,bl⟩:=kJ a6;have c0:=a4 0 _ rfl;have c1:=a4 1 _ rfl;have c2:=a4 2 _ rfl;simp only[LW] at c0;have a1:b<wr:=O;have a5:=ct.src _ (LN r);have cC:=nh (f:=kr) r;have ak:=Es f;have hle:=k0 kr p.funcs (k+1);have l:GT.length+(am.length+(fA kr (p.funcs.take (k+1))).length)<=262144:=by have:=F.o;omega
       rw[cC,ak] at l;simp only[LM] at l;have M:f.name.size<=262144:=by rw[oY];omega
       have ao:(hv f.params).length<=262144:=ad;have bE:(cI 1 f.body).length<=262144:=ad;have bi:f.params.length=pn:=by rw[<-bO.1,LO]
       have dW:pn<=1000:=ad;obtain⟨R,H,aN⟩:=ef ao bE bi;have Z:=ag (yY f.body a5.1) a5.2.1;have aC:(strOf (cI 1 f.body)).size<=262144:=by rw[aP];exact bE
       have i:=ag cC ak;clear bh a4 hle l r a6 O aw aQ cC ak a5 ao bE bi;go_upto_region 23 with(fail);exact Bj
      .obtain rfl:fn=k:=ad;have n:=ae (show fA kr (p.funcs.take fn)=fA kr p.funcs by rw[<-b6.2.2,List.take_length]);rw[n.o];clear aw aQ;go_wp2;go_ret;exact⟨ret_str (by rw[<-ax,<-aA]),br.o⟩
 ):p:=h
end Dg
open Dg in
theorem uC(p:bQ)(hp:xG p)(GA:Mt)(gn gc:Nat)(MA:Mt)(mn mc:Nat)(FA:Mt)(fn fc:Nat)(w:World)(h:hL w (aq w) p GA gn MA mn FA fn) :
  Calls prog 70 #[.agg #[.slice GA gn gc,.slice MA mn mc,.slice FA fn fc]] w λe ab=>e=.returned (.string (strOf (aV (fS p))))/\Ext w ab:=by
 exact vF
end Go.Proofs.YtpkfopfkdgkfkaaGreat
