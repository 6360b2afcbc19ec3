/- Part 33 of the proof. No condition of its own. -/
import Derived.Test.YtnigabjngpnbiaaGreatQ31
namespace Go.Proofs.YtnigabjngpnbiaaGreat
open Go.RowKit Go.Proofs.Tryz
set_option maxRecDepth 1000000
set_option maxHeartbeats 25600000
set_option linter.unusedVariables false
variable{cs:List Value}{P:Nat->Prop}{p:Prop}{w:World}
theorem nq(g:ByteArray×Int):(od g).sz=2:=rfl
theorem lD{g:ByteArray×Int}:(od g).rep w P cs↔cs=[.string g.1,.int .i64 g.2]:=by
 unfold od;rw[bK,dj];exact Cl
theorem sa(g:ByteArray×Bool):(dU g).sz=2:=rfl
theorem p2{g:ByteArray×Bool}:(dU g).rep w P cs↔cs=[.string g.1,.bool g.2]:=by
 unfold dU;rw[bK,dj];constructor
 .rintro⟨y,rfl,h⟩;rw[eN] at h;obtain⟨b3,rfl,h⟩:=h;rw[aS] at h;subst h;rfl
 .rintro rfl;exact⟨_,rfl,eN.2 ⟨_,rfl,aS.2 rfl⟩⟩
theorem oc(f:a1):(fA f).sz=3:=rfl
theorem j0{f:a1}(h:(fA f).rep w P cs):∃A n c B m d,cs=[.string f.name,.slice A n c,.slice B m d]/\Sl w P A n (f.params.map dU)/\Sl w P B m (dw f.body):=by
 unfold fA at h;rw[bK,dj] at h;obtain⟨y,rfl,h⟩:=h;obtain⟨A,n,c,b3,rfl,_,ac,h⟩:=aO.1 h;obtain⟨B,m,d,bA,rfl,_,ap,h⟩:=aO.1 h;rw[aS] at h;subst h;exact⟨_,_,_,_,_,_,rfl,ac,ap⟩
theorem rk(m:bI):(eL m).sz=3:=rfl
theorem ik(n:Int):kO n=aQ (gS n):=rfl
structure fU(w:World)(P:Nat->Prop)(p:bC)(GA:Kj)(gn:Nat)(MA:Kj)(mn:Nat)(FA:Kj)(fn:Nat):Prop where
 g:Sl w P GA gn (p.globals.map od)
 m:Sl w P MA mn (p.af.map eL)
 f:Sl w P FA fn (p.funcs.map fA)
theorem ny(s:ByteArray):s.size=s.data.toList.length:=rfl
theorem uQ(l:List (ByteArray×Bool))(k:Nat):(gD (l.take k)).length<=(gD (l.take (k+1))).length:=by
 cases h:l[k]? with
 | none=>rw[JQ (i:=k+1) (by have:=List.getElem?_eq_none_iff.1 h;omega),JQ (List.getElem?_eq_none_iff.1 h)];exact JI _
 | some a=>rw[oT h];simp
theorem oS(l:List (ByteArray×Bool)):∀j k:Nat,(gD (l.take k)).length<=(gD (l.take (k+j))).length
 | 0,k=>JI _
 | j+1,k=>JZ (oS l j k) (uQ l (k+j))
theorem sL(l:List (ByteArray×Bool))(k:Nat):(gD (l.take k)).length<=(gD l).length:=by
 by_cases h:k<=l.length
 .have:=oS l (l.length - k) k;rw[show k+(l.length - k)=l.length by omega,List.take_length] at this;exact this
 .rw[JQ ad];exact JI _
structure vC(p:bC):Prop where
 inits:∀g∈p.globals,-9223372036854775808<=g.2/\g.2<=9223372036854775807
 gE:∀m∈p.af,m.size<=9223372036854775807
 src:∀f∈p.funcs,mB f.body/\f.body.num<=900000/\f.params.length<=1000
 len:(aQ (e5 p)).length<=262144
 iN:p.globals.length<=1000/\p.af.length<=1000/\p.funcs.length<=1000
theorem xh(b:an)(h:mB b):gI b:=(IC uu b h).1
namespace A5
theorem zM(h:p:=by
 generalize F:strOf (GT++(am++eJ jH (p.funcs.take k)))=pre at *;have E:=ae F.symm;clear F;go_wp2;have bu:(((pre++(⟨#[102,117,110,99,32]⟩:ByteArray))++f.name)++(⟨#[40]⟩:ByteArray)).size<=600000:=by
  have ci:(⟨#[102,117,110,99,32]⟩:ByteArray).size=5:=rfl;have e1:(⟨#[40]⟩:ByteArray).size=1:=rfl;simp only[ByteArray.size_append];omega
 generalize G:((pre++(⟨#[102,117,110,99,32]⟩:ByteArray))++f.name)++(⟨#[40]⟩:ByteArray)=ai at *;have M:=ae G.symm;clear G a0 al af bi H;go_loopw [3,9] (λsv bM aG=>∃j:Nat,j<=pn/\bM=.int .i64 j/\sv=.string (ai++strOf (gD (f.params.take j)))/\Ext w aG/\au aG w.heap.size 44 #[.slice GA gn gc,.slice MA mn mc,.slice (some ⟨b,o,none⟩) fn fc]/\Ext V aG) (λ_ bM _=>pn - (intOf bM).toNat)
 case atStart=>
  refine⟨0,ad,rfl,?_,bs.o,y.o,Kf⟩;have:strOf (gD (f.params.take 0))=⟨#[]⟩:=rfl;rw[this];congr 1
  rw[ByteArray.ext_iff];simp
 case round=>
  obtain⟨j,be,rfl,rfl,ar,aK,hV⟩:=hrel;obtain⟨Q,v,U⟩:=eS ar aK hV;obtain⟨a0,al,af⟩:=(bK.aj hV).two;have aB:(strOf (gD (f.params.take j))).size<=262144:=by
   rw[aM];exact JZ (sL f.params j) ab.o
  by_cases Y:j<pn
  .obtain⟨pb,db,q,cs,rfl,ch,X,bA,a8,Z⟩:=(c5.on (Fr.ext hV)).iG sa Y;obtain rfl:=p2.1 bA;have c0:=Z 0 _ rfl;have c1:=Z 1 _ rfl;simp only[JS] at c0;have a3:pb<_:=ch;obtain⟨bI,qm⟩:=q;have a1:=oT X;have R:bI.size<=262144:=by
    have ac:=sL f.params (j+1);have ap:=ab.o;rw[a1] at ac;simp only[JK] at ac;rw[ny];omega
   simp only at a1 c0 c1 R;have ah:=ae a1;clear ar aK hV a8 Z X bA ch a1;by_cases h0:0<j
   .have q1:decide ((j:Int) > 0)=true:=by simp;omega
    cases qm
    all_goals
     go_wp2;go_roundw
     case rel=>
      refine⟨j+1,ad,by go_num,?_,Q.o,v.o,U.o⟩;rw[ah.o,if_pos h0];congr 1
      simp only[show (⟨#[44,32]⟩:ByteArray)=strOf [44,32] from rfl,show (⟨#[109,117,116,101,120,32]⟩:ByteArray)=strOf [109,117,116,101,120,32] from rfl];exact yr
     case measure=>exact aU
   .have q1:decide ((j:Int) > 0)=false:=by simp;omega
    cases qm
    all_goals
     go_wp2;go_roundw
     case rel=>
      refine⟨j+1,ad,by go_num,?_,Q.o,v.o,U.o⟩;rw[ah.o,if_neg h0];congr 1
      try simp only[show (⟨#[109,117,116,101,120,32]⟩:ByteArray)=strOf [109,117,116,101,120,32] from rfl]
      exact yr
     case measure=>exact aU
  .obtain rfl:pn=j:=ad;have ax:=ae (show gD (f.params.take pn)=gD f.params by rw[<-aw.o,List.take_length]);rw[ax.o] at aB ⊢;clear ar aK hV Y;go_wp2_with(fail);refine((show gI f.body from aa.1) 1 cW bn bc _ (aC aa.2) (dD.on (Fr.ext U.o)) I.o).mono ?_;rintro e aD ⟨rfl,P⟩;have ez:=ae (Q.trans P);have an:=ae (v.aj P);clear P a0 al af;go_wp2;go_roundw
   case rel=>
    refine⟨k+1,ad,by go_num,?_,ez.o,an.o⟩;obtain⟨bF,bm⟩:=i.o;rw[M.o,E.o,bF,bm];congr 1
    simp only[show (⟨#[102,117,110,99,32]⟩:ByteArray)=strOf [102,117,110,99,32] from rfl,show (⟨#[40]⟩:ByteArray)=strOf [40] from rfl,show (⟨#[41,32,123,10]⟩:ByteArray)=strOf [41,32,123,10] from rfl,show (⟨#[125,10]⟩:ByteArray)=strOf [125,10] from rfl];conv=>lhs;rw[<-cV f.name]
    simp only[ag];simp
   case measure=>exact aU
 ):p:=h
theorem tC(h:p:=by
 have hlen:=hp.len;have cH:gn<=1000:=by have:=hp.iN;omega
 have bj:mn<=1000:=by have:=hp.iN;omega
 have dL:fn<=1000:=by have:=hp.iN;omega
 rw[qs] at hlen;simp only[JK] at hlen;rw[qs];obtain⟨cw,cO,cF,b6⟩:=jF hp aS hm aA;have bW:=av dB lm lf;have l:=ae hlen;clear h aS hm aA dB lm lf hlen hp;go_enter func107,ntmps107;go_wp2;generalize ba:World.alloc _ _=W;have ar:=aY ba;have aK:=aF ba;clear ba;obtain⟨bd,bL⟩:=aI ar aK;clear ar aK;go_loopw [3,4] (λsv aX wr=>∃k:Nat,k<=gn/\aX=.int .i64 k/\sv=.string (strOf (eJ g0 (p.globals.take k)))/\Ext w wr/\au wr w.heap.size 44 #[.slice GA gn gc,.slice MA mn mc,.slice FA fn fc]) (λ_ aX _=>gn - (intOf aX).toNat)
 case atStart=>exact⟨0,ad,rfl,rfl,bd.o,bL.o⟩
 case round=>
  obtain⟨k,aj,rfl,rfl,ar,aK⟩:=hrel;clear bd bL;obtain⟨bd,bL⟩:=aI ar aK;obtain⟨a0,al,af⟩:=aK.two;have bi:(strOf (eJ g0 (p.globals.take k))).size<=262144:=by
   rw[aM];have ac:=ke g0 p.globals k;have ap:=l.o;omega
  by_cases aq:k<gn
  .obtain⟨b,o,g,cs,rfl,O,r,N,a8,Z⟩:=(cO.on (Fr.ext ar)).iG nq aq;obtain rfl:=lD.1 N;have c0:=Z 0 _ rfl;have c1:=Z 1 _ rfl;simp only[JS] at c0;have aN:b<wr.heap.size:=O;obtain⟨nm,z⟩:=g;have aZ:=cw.inits _ (JL r);have bF:=l7 (f:=g0) r;have bm:=C1 (nm,z);have hle:=ke g0 p.globals (k+1);have n:(eJ g0 (p.globals.take (k+1))).length<=262144:=by have:=l.o;omega
   rw[bF,bm] at n;simp only[JK] at n;have H:nm.size<=262144:=by rw[ny];omega
   simp only at aZ bm c0 c1 H;by_cases h0:z=0
   .subst h0;have S:=ae (show ((strOf (eJ g0 (p.globals.take k))++(⟨#[118,97,114,32]⟩:ByteArray))++nm)++(⟨#[59,10]⟩:ByteArray)=strOf (eJ g0 (p.globals.take (k+1))) by
     rw[bF,bm,show (⟨#[118,97,114,32]⟩:ByteArray)=strOf [118,97,114,32] from rfl,show (⟨#[59,10]⟩:ByteArray)=strOf [59,10] from rfl];conv=>lhs;rw[<-cV nm]
     rw[ag,ag,ag];simp)
    clear ar aK r N a8 Z bF bm hle n aZ O;go_wp2;go_roundw
    case rel=>exact⟨k+1,ad,by go_num,by rw[<-S.o],bd.o,bL.o⟩
    case measure=>exact aU
   .have q1:(z != 0)=true:=by simpa using h0
    have cM:(z == 0)=false:=by simpa using h0
    rw[if_neg h0] at bm n;simp only[JK] at n;have u:(strOf (kO z)).size<=262144:=by rw[aM,ik];omega
    have S:=ae (show ((((strOf (eJ g0 (p.globals.take k))++(⟨#[118,97,114,32]⟩:ByteArray))++nm)++(⟨#[32,61,32]⟩:ByteArray))++strOf (kO z))++(⟨#[59,10]⟩:ByteArray)=strOf (eJ g0 (p.globals.take (k+1))) by
     rw[bF,bm,show (⟨#[118,97,114,32]⟩:ByteArray)=strOf [118,97,114,32] from rfl,show (⟨#[59,10]⟩:ByteArray)=strOf [59,10] from rfl,show (⟨#[32,61,32]⟩:ByteArray)=strOf [32,61,32] from rfl,ik];conv=>lhs;rw[<-cV nm]
     rw[ag,ag,ag,ag,ag];simp)
    clear ar aK r N a8 Z bF bm hle n O h0;go_wp2_with(fail);refine(k6 z _ aZ).mono ?_;rintro e aL ⟨rfl,L⟩;have bs:=ae (bd.trans (Fr.of L));have y:=ae (bL.aj (Fr.of L));clear L a0 al af c0 c1;go_wp2;go_roundw
    case rel=>exact⟨k+1,ad,by go_num,by rw[<-S.o],bs.o,y.o⟩
    case measure=>exact aU
  .obtain rfl:gn=k:=ad;have s:=ae (show eJ g0 (p.globals.take gn)=eJ g0 p.globals by rw[<-bW.1,List.take_length]);rw[s.o] at bi ⊢;clear ar aK;generalize ay:eJ g0 p.globals=GT at *;go_wp2;clear a0 al af s;go_loopw [3,5] (λsv aX wr=>∃k:Nat,k<=mn/\aX=.int .i64 k/\sv=.string (strOf (GT++eJ jI (p.af.take k)))/\Ext w wr/\au wr w.heap.size 44 #[.slice GA gn gc,.slice MA mn mc,.slice FA fn fc]) (λ_ aX _=>mn - (intOf aX).toNat)
   case atStart=>exact⟨0,ad,rfl,by simp[eJ],bd.o,bL.o⟩
   case round=>
    obtain⟨k,aj,rfl,rfl,ar,aK⟩:=hrel;clear bd bL bi;obtain⟨bd,bL⟩:=aI ar aK;obtain⟨a0,al,af⟩:=aK.two;have bi:(strOf (GT++eJ jI (p.af.take k))).size<=262144:=by
     rw[aM,JK];have ac:=ke jI p.af k;have ap:=l.o;omega
    by_cases cl:k<mn
    .obtain⟨b,o,m,cs,rfl,O,r,N,a8,Z⟩:=(cF.on (Fr.ext ar)).iG rk cl;obtain rfl:=ih.1 N;have c0:=Z 0 _ rfl;have c1:=Z 1 _ rfl;have c2:=Z 2 _ rfl;simp only[JS] at c0;have aN:b<wr.heap.size:=O;obtain⟨nm,re,z⟩:=m;have aZ:=cw.gE _ (JL r);have bF:=l7 (f:=jI) r;have bm:=Df ⟨nm,re,z⟩;have hle:=ke jI p.af (k+1);have n:GT.length+(eJ jI (p.af.take (k+1))).length<=262144:=by have:=l.o;omega
     rw[bF,bm] at n;simp only[JK] at n;have H:nm.size<=262144:=by rw[ny];omega
     simp only at aZ bm c0 c1 c2 H;have u:0<z->(strOf (kO z)).size<=262144:=λh0=>by
      rw[if_pos h0] at n;simp only[JK] at n;rw[aM,ik];omega
     clear a8 Z hle n r N O ar aK;have K:=ae bF;go_upto_region 13 with(fail);generalize hV:World.alloc _ _=V;have T:=aY hV;have bs:=ae (bd.trans T);have y:=ae (bL.aj T);have hC:=aF hV;clear hV a0 al af c0 c1 c2 aN bd bL T bF;obtain⟨a0,al,af⟩:=hC.two;clear hC;cases re
     all_goals
      by_cases h0:0<z
      .rw[if_pos h0] at bm;have dc:=u h0;have q1:decide (z > 0)=true:=by simpa using h0
       have cm:-9223372036854775808<=z/\z<=9223372036854775807:=ad;have i:=ae bm;clear bm h0 u;go_wp2_with(fail);refine(k6 z _ cm).mono ?_;rintro e aL ⟨rfl,L⟩;have aT:=ae (bs.trans (Fr.of L));have bt:=ae (y.aj (Fr.of L));clear L a0 al af;go_wp2;go_roundw
       case rel=>
        refine⟨k+1,ad,by go_num,?_,aT.o,bt.o⟩;rw[K.o,i.o,<-ik];congr 1
        simp only[show (⟨#[114]⟩:ByteArray)=strOf [114] from rfl,show (⟨#[109,117,116,101,120,32]⟩:ByteArray)=strOf [109,117,116,101,120,32] from rfl,show (⟨#[91]⟩:ByteArray)=strOf [91] from rfl,show (⟨#[93]⟩:ByteArray)=strOf [93] from rfl,show (⟨#[59,10]⟩:ByteArray)=strOf [59,10] from rfl];conv=>lhs;rw[<-cV nm]
        simp only[ag];simp
       case measure=>exact aU
      .rw[if_neg h0] at bm;have q1:decide (z > 0)=false:=by simp;omega
       have i:=ae bm;clear bm h0 u aZ;go_wp2;go_roundw
       case rel=>
        refine⟨k+1,ad,by go_num,?_,bs.o,y.o⟩;rw[K.o,i.o];congr 1
        simp only[show (⟨#[114]⟩:ByteArray)=strOf [114] from rfl,show (⟨#[109,117,116,101,120,32]⟩:ByteArray)=strOf [109,117,116,101,120,32] from rfl,show (⟨#[59,10]⟩:ByteArray)=strOf [59,10] from rfl];conv=>lhs;rw[<-cV nm]
        simp only[ag];simp
       case measure=>exact aU
    .obtain rfl:mn=k:=ad;have s:=ae (show eJ jI (p.af.take mn)=eJ jI p.af by rw[<-bW.2.1,List.take_length]);rw[s.o] at bi ⊢;clear ar aK;generalize az:eJ jI p.af=am at *;go_wp2;clear a0 al af s;go_loopw [3,7] (λsv aX wr=>∃k:Nat,k<=fn/\aX=.int .i64 k/\sv=.string (strOf (GT++(am++eJ jH (p.funcs.take k))))/\Ext w wr/\au wr w.heap.size 44 #[.slice GA gn gc,.slice MA mn mc,.slice FA fn fc]) (λ_ aX _=>fn - (intOf aX).toNat)
     case atStart=>exact⟨0,ad,rfl,by simp[eJ],bd.o,bL.o⟩
     case round=>
      obtain⟨k,aj,rfl,rfl,ar,aK⟩:=hrel;clear bd bL bi;obtain⟨bd,bL⟩:=aI ar aK;obtain⟨a0,al,af⟩:=aK.two;have bi:(strOf (GT++(am++eJ jH (p.funcs.take k)))).size<=262144:=by
       rw[aM,JK,JK];have ac:=ke jH p.funcs k;have ap:=l.o;omega
      by_cases a9:k<fn
      .obtain⟨b,o,f,cs,rfl,O,r,N,a8,Z⟩:=(b6.on (Fr.ext ar)).iG oc a9;obtain⟨PA,pn,pc,cW,bn,bc,rfl,b3,bE⟩:=j0 N;have c0:=Z 0 _ rfl;have c1:=Z 1 _ rfl;have c2:=Z 2 _ rfl;simp only[JS] at c0;have aN:b<wr.heap.size:=O;have aZ:=cw.src _ (JL r);have bF:=l7 (f:=jH) r;have bm:=CV f;have hle:=ke jH p.funcs (k+1);have n:GT.length+(am.length+(eJ jH (p.funcs.take (k+1))).length)<=262144:=by have:=l.o;omega
       rw[bF,bm] at n;simp only[JK] at n;have H:f.name.size<=262144:=by rw[ny];omega
       have bl:(gD f.params).length<=262144:=ad;have aW:(cu 1 f.body).length<=262144:=ad;have bB:f.params.length=pn:=by rw[<-b3.1,JM]
       have b4:pn<=1000:=ad;obtain⟨ab,I,aw⟩:=eS bl aW bB;have aa:=ak (xh f.body aZ.1) aZ.2.1;have bJ:(strOf (cu 1 f.body)).size<=262144:=by rw[aM];exact aW
       have i:=ak bF bm;clear a8 Z hle n r N O ar aK bF bm aZ bl aW bB;go_upto_region 23 with(fail);exact zL
      .obtain rfl:fn=k:=ad;have s:=ae (show eJ jH (p.funcs.take fn)=eJ jH p.funcs by rw[<-bW.2.2,List.take_length]);rw[s.o];clear ar aK;go_wp2;go_ret;exact⟨ret_str (by rw[<-ay,<-az]),bd.o⟩
 ):p:=h
end A5
open A5 in
theorem sJ(p:bC)(hp:vC p)(GA:Kj)(gn gc:Nat)(MA:Kj)(mn mc:Nat)(FA:Kj)(fn fc:Nat)(w:World)(h:fU w (ao w) p GA gn MA mn FA fn) :
  Calls prog 107 #[.agg #[.slice GA gn gc,.slice MA mn mc,.slice FA fn fc]] w λe J=>e=.returned (.string (strOf (aQ (e5 p))))/\Ext w J:=by
 exact tB
end Go.Proofs.YtnigabjngpnbiaaGreat
