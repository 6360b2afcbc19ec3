/- Part 18 of the proof. No condition of its own. -/
import Derived.Test.YtajlmkkidmjgoaaGreatDoorQ13
import Derived.Test.YtajlmkkidmjgoaaGreatDoorQ15
namespace Go.Proofs.YtajlmkkidmjgoaaGreatDoor
open Go.RowKit Go.Proofs.Tryz
set_option maxRecDepth 1000000
set_option maxHeartbeats 25600000
set_option linter.unusedVariables false
variable{cs:List Value}{P:Nat->Prop}{p:Prop}{w:World}
theorem nY(g:ByteArray×Int):(hR g).sz=2:=rfl
theorem l3{g:ByteArray×Int}:(hR g).rep w P cs↔cs=[.string g.1,.int .i64 g.2]:=by
 unfold hR;rw[bw,b9];exact Ax
theorem si(g:ByteArray×Bool):(ch g).sz=2:=rfl
theorem qg{g:ByteArray×Bool}:(ch g).rep w P cs↔cs=[.string g.1,.bool g.2]:=by
 exact DY
theorem oL(f:aE):(c8 f).sz=3:=rfl
theorem j7{f:aE}(h:(c8 f).rep w P cs):∃A n c B m d,cs=[.string f.name,.slice A n c,.slice B m d]/\Sl w P A n (f.params.map ch)/\Sl w P B m (cL f.body):=by
 unfold c8 at h;rw[bw,b9] at h;obtain⟨y,rfl,h⟩:=h;obtain⟨A,n,c,bp,rfl,_,ac,h⟩:=aA.1 h;obtain⟨B,m,d,aJ,rfl,_,J,h⟩:=aA.1 h;rw[aM] at h;subst h;exact⟨_,_,_,_,_,_,rfl,ac,J⟩
theorem rb(m:bJ):(er m).sz=3:=rfl
theorem ix(n:Int):k7 n=aR (g3 n):=rfl
structure hG(w:World)(P:Nat->Prop)(p:bC)(GA:IP)(gn:Nat)(MA:IP)(mn:Nat)(FA:IP)(fn:Nat):Prop where
 g:Sl w P GA gn (p.globals.map hR)
 m:Sl w P MA mn (p.af.map er)
 f:Sl w P FA fn (p.funcs.map c8)
theorem n6(s:ByteArray):s.size=s.data.toList.length:=rfl
theorem uP(l:List (ByteArray×Bool))(k:Nat):(gM (l.take k)).length<=(gM (l.take (k+1))).length:=by
 cases h:l[k]? with
 | none=>rw[Ih (i:=k+1) (by have:=List.getElem?_eq_none_iff.1 h;omega),Ih (List.getElem?_eq_none_iff.1 h)];exact Hx _
 | some a=>rw[py h];simp
theorem px(l:List (ByteArray×Bool)):∀j k:Nat,(gM (l.take k)).length<=(gM (l.take (k+j))).length
 | 0,k=>Hx _
 | j+1,k=>Ir (px l j k) (uP l (k+j))
theorem sP(l:List (ByteArray×Bool))(k:Nat):(gM (l.take k)).length<=(gM l).length:=by
 by_cases h:k<=l.length
 .have:=px l (l.length - k) k;rw[show k+(l.length - k)=l.length by omega,List.take_length] at this;exact this
 .rw[Ih ad];exact Hx _
structure vz(p:bC):Prop where
 inits:∀g∈p.globals,-9223372036854775808<=g.2/\g.2<=9223372036854775807
 gh:∀m∈p.af,m.size<=9223372036854775807
 src:∀f∈p.funcs,m4 f.body/\f.body.num<=900000/\f.params.length<=1000
 len:(aR (ff p)).length<=262144
 hW:p.globals.length<=1000/\p.af.length<=1000/\p.funcs.length<=1000
theorem xg(b:ak)(h:m4 b):gU b:=(GW uv b h).1
namespace zL
theorem yZ(h:p:=by
 generalize I:strOf (GT++(ao++eR jQ (p.funcs.take k)))=pre at *;have y:=ae I.symm;clear I;go_wp2;have cP:(((pre++(⟨#[102,117,110,99,32]⟩:ByteArray))++f.name)++(⟨#[40]⟩:ByteArray)).size<=600000:=by
  have cV:(⟨#[102,117,110,99,32]⟩:ByteArray).size=5:=rfl;have e1:(⟨#[40]⟩:ByteArray).size=1:=rfl;simp only[ByteArray.size_append];omega
 generalize u:((pre++(⟨#[102,117,110,99,32]⟩:ByteArray))++f.name)++(⟨#[40]⟩:ByteArray)=ak at *;have P:=ae u.symm;clear u aI aj af bi E;go_loopw [3,9] (λsv a6 bD=>∃j:Nat,j<=pn/\a6=.int .i64 j/\sv=.string (ak++strOf (gM (f.params.take j)))/\Ext w bD/\an bD w.heap.size 27 #[.slice GA gn gc,.slice MA mn mc,.slice (some ⟨b,o,none⟩) fn fc]/\Ext V bD) (λ_ a6 _=>pn - (intOf a6).toNat)
 case atStart=>
  refine⟨0,ad,rfl,?_,bh.o,G.o,IK⟩;have:strOf (gM (f.params.take 0))=⟨#[]⟩:=rfl;rw[this];congr 1
  rw[ByteArray.ext_iff];simp
 case round=>
  obtain⟨j,a1,rfl,rfl,aw,aS,hV⟩:=hrel;obtain⟨M,v,R⟩:=eD aw aS hV;obtain⟨aI,aj,af⟩:=(bP.aj hV).two;have az:(strOf (gM (f.params.take j))).size<=262144:=by
   rw[aK];exact Ir (sP f.params j) a2.o
  by_cases Y:j<pn
  .obtain⟨pb,gO,q,cs,rfl,eJ,am,bE,bd,Z⟩:=(gH.on (Fr.ext hV)).gH si Y;obtain rfl:=qg.1 bE;have c0:=Z 0 _ rfl;have c1:=Z 1 _ rfl;simp only[Ij] at c0;have N:pb<_:=eJ;obtain⟨cc,qm⟩:=q;have cd:=py am;have Q:cc.size<=262144:=by
    have ac:=sP f.params (j+1);have J:=a2.o;rw[cd] at ac;simp only[Hz] at ac;rw[n6];omega
   simp only at cd c0 c1 Q;have X:=ae cd;clear aw aS hV bd Z am bE eJ cd;by_cases h0:0<j
   .have q1:decide ((j:Int) > 0)=true:=by simp;omega
    cases qm
    all_goals
     go_wp2;go_roundw
     case rel=>
      refine⟨j+1,ad,by go_num,?_,M.o,v.o,R.o⟩;rw[X.o,if_pos h0];congr 1
      simp only[show (⟨#[44,32]⟩:ByteArray)=strOf [44,32] from rfl,show (⟨#[109,117,116,101,120,32]⟩:ByteArray)=strOf [109,117,116,101,120,32] from rfl];exact ye
     case measure=>exact aF
   .have q1:decide ((j:Int) > 0)=false:=by simp;omega
    cases qm
    all_goals
     go_wp2;go_roundw
     case rel=>
      refine⟨j+1,ad,by go_num,?_,M.o,v.o,R.o⟩;rw[X.o,if_neg h0];congr 1
      try simp only[show (⟨#[109,117,116,101,120,32]⟩:ByteArray)=strOf [109,117,116,101,120,32] from rfl]
      exact ye
     case measure=>exact aF
  .obtain rfl:pn=j:=ad;have au:=ae (show gM (f.params.take pn)=gM f.params by rw[<-aq.o,List.take_length]);rw[au.o] at az ⊢;clear aw aS hV Y;go_wp2_with(fail);refine((show gU f.body from U.1) 1 aW bn bc _ (aC U.2) (dw.on (Fr.ext R.o)) H.o).mono ?_;rintro e hW ⟨rfl,S⟩;have eH:=ae (M.trans S);have L:=ae (v.aj S);clear S aI aj af;go_wp2;go_roundw
   case rel=>
    refine⟨k+1,ad,by go_num,?_,eH.o,L.o⟩;obtain⟨aE,aZ⟩:=i.o;rw[P.o,y.o,aE,aZ];congr 1
    simp only[show (⟨#[102,117,110,99,32]⟩:ByteArray)=strOf [102,117,110,99,32] from rfl,show (⟨#[40]⟩:ByteArray)=strOf [40] from rfl,show (⟨#[41,32,123,10]⟩:ByteArray)=strOf [41,32,123,10] from rfl,show (⟨#[125,10]⟩:ByteArray)=strOf [125,10] from rfl];conv=>lhs;rw[<-cS f.name]
    simp only[ag];simp
   case measure=>exact aF
 ):p:=h
theorem tF(h:p:=by
 have hlen:=hp.len;have cM:gn<=1000:=by have:=hp.hW;omega
 have cg:mn<=1000:=by have:=hp.hW;omega
 have dG:fn<=1000:=by have:=hp.hW;omega
 rw[qA] at hlen;simp only[Hz] at hlen;rw[qA];obtain⟨b9,cH,eV,bV⟩:=ih hp aM hm aA;have bL:=aL dt lm lf;have F:=ae hlen;clear h aM hm aA dt lm lf hlen hp;go_enter func53,ntmps53;go_wp2;generalize ba:World.alloc _ _=W;have aw:=bm ba;have aS:=aU ba;clear ba;obtain⟨bf,a7⟩:=aN aw aS;clear aw aS;go_loopw [3,4] (λsv ah wr=>∃k:Nat,k<=gn/\ah=.int .i64 k/\sv=.string (strOf (eR g8 (p.globals.take k)))/\Ext w wr/\an wr w.heap.size 27 #[.slice GA gn gc,.slice MA mn mc,.slice FA fn fc]) (λ_ ah _=>gn - (intOf ah).toNat)
 case atStart=>exact⟨0,ad,rfl,rfl,bf.o,a7.o⟩
 case round=>
  obtain⟨k,ap,rfl,rfl,aw,aS⟩:=hrel;clear bf a7;obtain⟨bf,a7⟩:=aN aw aS;obtain⟨aI,aj,af⟩:=aS.two;have bi:(strOf (eR g8 (p.globals.take k))).size<=262144:=by
   rw[aK];have ac:=ku g8 p.globals k;have J:=F.o;omega
  by_cases al:k<gn
  .obtain⟨b,o,g,cs,rfl,O,r,bt,bd,Z⟩:=(cH.on (Fr.ext aw)).gH nY al;obtain rfl:=l3.1 bt;have c0:=Z 0 _ rfl;have c1:=Z 1 _ rfl;simp only[Ij] at c0;have aX:b<wr.heap.size:=O;obtain⟨nm,z⟩:=g;have aY:=b9.inits _ (Ia r);have aE:=mJ (f:=g8) r;have aZ:=Bc (nm,z);have hle:=ku g8 p.globals (k+1);have l:(eR g8 (p.globals.take (k+1))).length<=262144:=by have:=F.o;omega
   rw[aE,aZ] at l;simp only[Hz] at l;have E:nm.size<=262144:=by rw[n6];omega
   simp only at aY aZ c0 c1 E;by_cases h0:z=0
   .subst h0;have aP:=ae (show ((strOf (eR g8 (p.globals.take k))++(⟨#[118,97,114,32]⟩:ByteArray))++nm)++(⟨#[59,10]⟩:ByteArray)=strOf (eR g8 (p.globals.take (k+1))) by
     rw[aE,aZ,show (⟨#[118,97,114,32]⟩:ByteArray)=strOf [118,97,114,32] from rfl,show (⟨#[59,10]⟩:ByteArray)=strOf [59,10] from rfl];conv=>lhs;rw[<-cS nm]
     rw[ag,ag,ag];simp)
    clear aw aS r bt bd Z aE aZ hle l aY O;go_wp2;go_roundw
    case rel=>exact⟨k+1,ad,by go_num,by rw[<-aP.o],bf.o,a7.o⟩
    case measure=>exact aF
   .have q1:(z != 0)=true:=by simpa using h0
    have dq:(z == 0)=false:=by simpa using h0
    rw[if_neg h0] at aZ l;simp only[Hz] at l;have s:(strOf (k7 z)).size<=262144:=by rw[aK,ix];omega
    have aP:=ae (show ((((strOf (eR g8 (p.globals.take k))++(⟨#[118,97,114,32]⟩:ByteArray))++nm)++(⟨#[32,61,32]⟩:ByteArray))++strOf (k7 z))++(⟨#[59,10]⟩:ByteArray)=strOf (eR g8 (p.globals.take (k+1))) by
     rw[aE,aZ,show (⟨#[118,97,114,32]⟩:ByteArray)=strOf [118,97,114,32] from rfl,show (⟨#[59,10]⟩:ByteArray)=strOf [59,10] from rfl,show (⟨#[32,61,32]⟩:ByteArray)=strOf [32,61,32] from rfl,ix];conv=>lhs;rw[<-cS nm]
     rw[ag,ag,ag,ag,ag];simp)
    clear aw aS r bt bd Z aE aZ hle l O h0;go_wp2_with(fail);refine(lE z _ aY).mono ?_;rintro e aO ⟨rfl,ar⟩;have bh:=ae (bf.trans (Fr.of ar));have G:=ae (a7.aj (Fr.of ar));clear ar aI aj af c0 c1;go_wp2;go_roundw
    case rel=>exact⟨k+1,ad,by go_num,by rw[<-aP.o],bh.o,G.o⟩
    case measure=>exact aF
  .obtain rfl:gn=k:=ad;have n:=ae (show eR g8 (p.globals.take gn)=eR g8 p.globals by rw[<-bL.1,List.take_length]);rw[n.o] at bi ⊢;clear aw aS;generalize ax:eR g8 p.globals=GT at *;go_wp2;clear aI aj af n;go_loopw [3,5] (λsv ah wr=>∃k:Nat,k<=mn/\ah=.int .i64 k/\sv=.string (strOf (GT++eR jS (p.af.take k)))/\Ext w wr/\an wr w.heap.size 27 #[.slice GA gn gc,.slice MA mn mc,.slice FA fn fc]) (λ_ ah _=>mn - (intOf ah).toNat)
   case atStart=>exact⟨0,ad,rfl,by simp[eR],bf.o,a7.o⟩
   case round=>
    obtain⟨k,ap,rfl,rfl,aw,aS⟩:=hrel;clear bf a7 bi;obtain⟨bf,a7⟩:=aN aw aS;obtain⟨aI,aj,af⟩:=aS.two;have bi:(strOf (GT++eR jS (p.af.take k))).size<=262144:=by
     rw[aK,Hz];have ac:=ku jS p.af k;have J:=F.o;omega
    by_cases du:k<mn
    .obtain⟨b,o,m,cs,rfl,O,r,bt,bd,Z⟩:=(eV.on (Fr.ext aw)).gH rb du;obtain rfl:=eN.1 bt;have c0:=Z 0 _ rfl;have c1:=Z 1 _ rfl;have c2:=Z 2 _ rfl;simp only[Ij] at c0;have aX:b<wr.heap.size:=O;obtain⟨nm,re,z⟩:=m;have aY:=b9.gh _ (Ia r);have aE:=mJ (f:=jS) r;have aZ:=Bw ⟨nm,re,z⟩;have hle:=ku jS p.af (k+1);have l:GT.length+(eR jS (p.af.take (k+1))).length<=262144:=by have:=F.o;omega
     rw[aE,aZ] at l;simp only[Hz] at l;have E:nm.size<=262144:=by rw[n6];omega
     simp only at aY aZ c0 c1 c2 E;have s:0<z->(strOf (k7 z)).size<=262144:=λh0=>by
      rw[if_pos h0] at l;simp only[Hz] at l;rw[aK,ix];omega
     clear bd Z hle l r bt O aw aS;have K:=ae aE;go_upto_region 13 with(fail);generalize hV:World.alloc _ _=V;have T:=bm hV;have bh:=ae (bf.trans T);have G:=ae (a7.aj T);have hC:=aU hV;clear hV aI aj af c0 c1 c2 aX bf a7 T aE;obtain⟨aI,aj,af⟩:=hC.two;clear hC;cases re
     all_goals
      by_cases h0:0<z
      .rw[if_pos h0] at aZ;have bu:=s h0;have q1:decide (z > 0)=true:=by simpa using h0
       have c4:-9223372036854775808<=z/\z<=9223372036854775807:=ad;have i:=ae aZ;clear aZ h0 s;go_wp2_with(fail);refine(lE z _ c4).mono ?_;rintro e aO ⟨rfl,ar⟩;have a3:=ae (bh.trans (Fr.of ar));have b6:=ae (G.aj (Fr.of ar));clear ar aI aj af;go_wp2;go_roundw
       case rel=>
        refine⟨k+1,ad,by go_num,?_,a3.o,b6.o⟩;rw[K.o,i.o,<-ix];congr 1
        simp only[show (⟨#[114]⟩:ByteArray)=strOf [114] from rfl,show (⟨#[109,117,116,101,120,32]⟩:ByteArray)=strOf [109,117,116,101,120,32] from rfl,show (⟨#[91]⟩:ByteArray)=strOf [91] from rfl,show (⟨#[93]⟩:ByteArray)=strOf [93] from rfl,show (⟨#[59,10]⟩:ByteArray)=strOf [59,10] from rfl];conv=>lhs;rw[<-cS nm]
        simp only[ag];simp
       case measure=>exact aF
      .rw[if_neg h0] at aZ;have q1:decide (z > 0)=false:=by simp;omega
       have i:=ae aZ;clear aZ h0 s aY;go_wp2;go_roundw
       case rel=>
        refine⟨k+1,ad,by go_num,?_,bh.o,G.o⟩;rw[K.o,i.o];congr 1
        simp only[show (⟨#[114]⟩:ByteArray)=strOf [114] from rfl,show (⟨#[109,117,116,101,120,32]⟩:ByteArray)=strOf [109,117,116,101,120,32] from rfl,show (⟨#[59,10]⟩:ByteArray)=strOf [59,10] from rfl];conv=>lhs;rw[<-cS nm]
        simp only[ag];simp
       case measure=>exact aF
    .obtain rfl:mn=k:=ad;have n:=ae (show eR jS (p.af.take mn)=eR jS p.af by rw[<-bL.2.1,List.take_length]);rw[n.o] at bi ⊢;clear aw aS;generalize ay:eR jS p.af=ao at *;go_wp2;clear aI aj af n;go_loopw [3,7] (λsv ah wr=>∃k:Nat,k<=fn/\ah=.int .i64 k/\sv=.string (strOf (GT++(ao++eR jQ (p.funcs.take k))))/\Ext w wr/\an wr w.heap.size 27 #[.slice GA gn gc,.slice MA mn mc,.slice FA fn fc]) (λ_ ah _=>fn - (intOf ah).toNat)
     case atStart=>exact⟨0,ad,rfl,by simp[eR],bf.o,a7.o⟩
     case round=>
      obtain⟨k,ap,rfl,rfl,aw,aS⟩:=hrel;clear bf a7 bi;obtain⟨bf,a7⟩:=aN aw aS;obtain⟨aI,aj,af⟩:=aS.two;have bi:(strOf (GT++(ao++eR jQ (p.funcs.take k)))).size<=262144:=by
       rw[aK,Hz,Hz];have ac:=ku jQ p.funcs k;have J:=F.o;omega
      by_cases aa:k<fn
      .obtain⟨b,o,f,cs,rfl,O,r,bt,bd,Z⟩:=(bV.on (Fr.ext aw)).gH oL aa;obtain⟨PA,pn,pc,aW,bn,bc,rfl,cq,bB⟩:=j7 bt;have c0:=Z 0 _ rfl;have c1:=Z 1 _ rfl;have c2:=Z 2 _ rfl;simp only[Ij] at c0;have aX:b<wr.heap.size:=O;have aY:=b9.src _ (Ia r);have aE:=mJ (f:=jQ) r;have aZ:=A1 f;have hle:=ku jQ p.funcs (k+1);have l:GT.length+(ao.length+(eR jQ (p.funcs.take (k+1))).length)<=262144:=by have:=F.o;omega
       rw[aE,aZ] at l;simp only[Hz] at l;have E:f.name.size<=262144:=by rw[n6];omega
       have bI:(gM f.params).length<=262144:=ad;have bz:(cn 1 f.body).length<=262144:=ad;have b3:f.params.length=pn:=by rw[<-cq.1,Ib]
       have gI:pn<=1000:=ad;obtain⟨a2,H,aq⟩:=eD bI bz b3;have U:=ai (xg f.body aY.1) aY.2.1;have aB:(strOf (cn 1 f.body)).size<=262144:=by rw[aK];exact bz
       have i:=ai aE aZ;clear bd Z hle l r bt O aw aS aE aZ aY bI bz b3;go_upto_region 23 with(fail);exact yY
      .obtain rfl:fn=k:=ad;have n:=ae (show eR jQ (p.funcs.take fn)=eR jQ p.funcs by rw[<-bL.2.2,List.take_length]);rw[n.o];clear aw aS;go_wp2;go_ret;exact⟨ret_str (by rw[<-ax,<-ay]),bf.o⟩
 ):p:=h
end zL
open zL in
theorem sO(p:bC)(hp:vz p)(GA:IP)(gn gc:Nat)(MA:IP)(mn mc:Nat)(FA:IP)(fn fc:Nat)(w:World)(h:hG w (av w) p GA gn MA mn FA fn) :
  Calls prog 53 #[.agg #[.slice GA gn gc,.slice MA mn mc,.slice FA fn fc]] w λe ab=>e=.returned (.string (strOf (aR (ff p))))/\Ext w ab:=by
 exact tE
end Go.Proofs.YtajlmkkidmjgoaaGreatDoor
