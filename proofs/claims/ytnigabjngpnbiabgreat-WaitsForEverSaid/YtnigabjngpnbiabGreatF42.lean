/- Part 42 of the proof. No condition of its own. -/
import Derived.Test.YtnigabjngpnbiabGreatF24
import Derived.Test.YtnigabjngpnbiabGreatF30
import Derived.Test.YtnigabjngpnbiabGreatF37
import Derived.Test.YtnigabjngpnbiabGreatF38
import Derived.Test.YtnigabjngpnbiabGreatF41
namespace Go.Proofs.YtnigabjngpnbiabGreat
open Go.RowKit Go.Proofs.Tryz
set_option maxRecDepth 1000000
set_option maxHeartbeats 25600000
set_option linter.unusedVariables false
variable{T:List Tok}{m n:Nat}{p:Prop}{ab w:World}
theorem EH(eg:wq)(U:h2)(nk:Int)(F:List aI)(b:al)(G:Env)(d:Nat)(l:List dS)(n:Int)(st:Nat)(code:List aA)(sites:List Int)(g B:Nat)(bC:NH)(ln lc:Nat)(S:NH)(bQ:Nat)(bI:NH)(bx:Nat)(A:NH)(m c:Nat)(w:World)(bH:NJ (Sl w (off (Ms g (.slice S code.length bQ) (.slice bI sites.length bx)) w) A m (b.list.map bk)))(cC:NJ (∀s∈b.list,l6 U nk F s.th/\l6 U nk F s.el))(eE:NJ (∀f∈F,f.params.length<=1000))(bp:NJ (b.list.length=m))(f0:m<=100000)(e0:st+b.num<=100000)(dz:Exit->Act->World->Prop)(hQ0:∀c a d v w,dz (.panic c) (a.put d v) w->dz (.panic c) a w)(x:∀r j,Gu U nk F b G d l n st code sites g B bC ln lc S bQ bI bx A m c w r j->dz (.exit 0) r j)
  (a:Act) (wr:World) (hI:jj U nk F b G d l n st code sites g B bC ln lc S bQ bI bx A m c w a wr):Code.wp prog tq (Exit.then (λr j=>jj U nk F b G d l n st code sites g B bC ln lc S bQ bI bx A m c w r j/\jH m r j<jH m a wr) dz) a wr:=by
 unfold jj at hI
 iterate 240 obtain⟨_,hI⟩:=hI
 obtain⟨hI,rfl⟩:=hI;have e:=hI;obtain⟨k,rest,ag,aU,a9,a6,ab,u,y,bn,a8,cq,Y,ao,aH,aZ,rfl,aj,be,aQ,aF,aN,hS,bf,bu,bS,cD,bK,bF,hM⟩:=hI;by_cases ap:k<m
 .suffices aT:BK rest from aT eg U nk F b G d l n st code sites g B bC ln lc S bQ bI bx A m c w bH cC eE bp f0 e0 k ag aU a9 a6 ab u y bn a8 cq Y ao aH aZ wr ap be aQ aF aN hS bf bu bS cD bK bF hM dz hQ0
  exact Jg rest
 .obtain rfl:m=k:=ad;have aR:=ae e;clear e be aQ aF aN hS bf bu bS cD bK bF hM;conv=>arg 2;whnf
  go_wp2;unfold Gu
  iterate 240 apply Exists.intro
  exact⟨aR.o,rfl,rfl⟩
theorem GJ(eg:wq)(U:h2)(nk:Int)(F:List aI)(b:al)(G:Env)(d:Nat)(l:List dS)(n:Int)(st:Nat)(code:List aA)(sites:List Int)(g B:Nat)(bC:NH)(ln lc:Nat)(S:NH)(bQ:Nat)(bI:NH)(bx:Nat)(A:NH)(m c:Nat)(w:World)(bH:NJ (Sl w (off (Ms g (.slice S code.length bQ) (.slice bI sites.length bx)) w) A m (b.list.map bk)))(cC:NJ (∀s∈b.list,l6 U nk F s.th/\l6 U nk F s.el))(eE:NJ (∀f∈F,f.params.length<=1000))(bp:NJ (b.list.length=m))(f0:m<=100000)(e0:st+b.num<=100000)(dz:Exit->Act->World->Prop)(hQ0:∀c a d v w,dz (.panic c) (a.put d v) w->dz (.panic c) a w)(x:∀r j,Gu U nk F b G d l n st code sites g B bC ln lc S bQ bI bx A m c w r j->dz (.exit 0) r j)
  (wr:World) {gL gQ o u8 gO eY T av bY aR eZ e3 e4 e5 e6 e7 e8 e9 fa fb fd fe ff u32 fh fi fj fl fm fo fp fr fs ft fu fv fw fx fy fz fA fB fD fE fF fG fH fI fJ fK fL fM fN fO fP u64 fR fS fT fU fV fW fX fY fZ f3 f4 f5 f6 f7 f8 f9 ga gb gd ge gf gg gh gi gj gk gl gm go gp gq gr gs gt gu H I am aK aM aS aX aY a4 bb bs bt bD bE bT bU b1 b9 ca cb ce cf cg ch cn cp ct cx cy cz cE cF cI cJ cK cM cN cR cS cT cV cW cX cY cZ c5 c6 c7 c8 c9 da db dc dd de df dg dh di dj dk dl dm dn dp dq dr ds dt du dv dw dx dy dA dC dD dE dF dG dH dI dJ dK dL dM dN dO dQ dR dT dU dV dW dZ d0 d1 d2 d3 d4 d5 d6 d7 d8 d9 ea eb ec ed ee ef eh ei ej ek el em en eo eq er es et eu ev ex ey ez eA eB eC eD eF eG eH eI eK eL eM eN eO eP eQ eR eS eT eU eV eW:Value} (hI:oY U nk F b G d l n st code sites g B bC ln lc S bQ bI bx A m c w gL wr):Code.wp prog (Code.loop tq) dz ⟨#[.pointer (some ⟨g,0,none⟩),.slice A m c,undef,undef,.slice bC ln lc,gL,gQ,o,u8,gO,eY,T,av,bY,aR,.pointer (some ⟨g,0,none⟩),.pointer (some ⟨g,0,none⟩),.pointer (some ⟨g,3,none⟩),.slice bC ln lc,eZ,e3,e4,e5,e6,e7,e8,e9,fa,fb,fd,fe,ff,u32,fh,fi,fj,fl,fm,fo,fp,fr,fs,ft,fu,fv,fw,fx,fy,fz,fA,fB,fD,fE,fF,fG,fH,fI,fJ,fK,fL,fM,fN,fO,fP,u64,fR,fS,fT,fU,fV,fW,fX,fY,fZ,f3,f4,f5,f6,f7,f8,f9,ga,gb,gd,ge,gf,gg,gh,gi,gj,gk,gl,gm,go,gp,gq,gr,gs,gt,gu,H,I,am,aK,aM,aS,aX,aY,a4,bb,bs,bt,bD,bE,bT,bU,b1,b9,ca,cb,ce,cf,cg,ch,cn,cp,ct,cx,cy,cz,cE,cF,cI,cJ,cK,cM,cN,cR,cS,cT,cV,cW,cX,cY,cZ,c5,c6,c7,c8,c9,da,db,dc,dd,de,df,dg,dh,di,dj,dk,dl,dm,dn,dp,dq,dr,ds,dt,du,dv,dw,dx,dy,dA,dC,dD,dE,dF,dG,dH,dI,dJ,dK,dL,dM,dN,dO,dQ,dR,dT,dU,dV,dW,dZ,d0,d1,d2,d3,d4,d5,d6,d7,d8,d9,ea,eb,ec,ed,ee,ef,eh,ei,ej,ek,el,em,en,eo,eq,er,es,et,eu,ev,ex,ey,ez,eA,eB,eC,eD,eF,eG,eH,eI,eK,eL,eM,eN,eO,eP,eQ,eR,eS,eT,eU,eV,eW,undef,undef,undef,undef],[]⟩ wr:=by
 refine wp_loop (jj U nk F b G d l n st code sites g B bC ln lc S bQ bI bx A m c w) (jH m) ?_ (λa j hI=>EH eg U nk F b G d l n st code sites g B bC ln lc S bQ bI bx A m c w bH cC eE bp f0 e0 dz hQ0 x a j hI);unfold jj
 iterate 240 apply Exists.intro
 exact⟨hI,rfl⟩
theorem w0(eg:wq)(U:h2)(nk:Int)(F:List aI)(b:al)(aq:∀s∈b.list,l6 U nk F s.th/\l6 U nk F s.el):l6 U nk F b:=by
 intro G d l V T n st code sites g B bC ln lc S bQ bI bx A m c w aN hS bf aa h hs bu bS cD e0 bK;have bN:b.list.length=m:=by rw[<-hs.1,cM,M5]
 have f0:m<=100000:=by have:=g5 b;omega
 rw[cM] at hs;obtain⟨GA,gn,gc,MA,mn,mc,FA,fn,fc,aT,_⟩:=h.blk;obtain⟨bH,cC,eE,bp⟩:=jl hs aq aa bN;obtain⟨bs,am,aK⟩:=aT.two;have a3:=ae (show oY U nk F b G d l n st code sites g B bC ln lc S bQ bI bx A m c w (.int .i64 0) w from
  ⟨0,b,l,V,T,n,st,code,sites,bC,ln,lc,S,bQ,bI,bx,rfl,ad,rfl,rfl,rfl,aN,hS,bf,bu,bS,cD,bK,h,Mv.refl _ _ _ _⟩)
 have bT:=ah h.names.1 h.names.2;clear hs aq aN hS bf aa h bu bS cD bK aT bN;go_enter func83,ntmps83;go_wp2;clear bs am aK;refine GJ eg U nk F b G d l n st code sites g B bC ln lc S bQ bI bx A m c w bH cC eE bp f0 e0 _ ?hQ ?hX _ a3.o
 case hQ=>exact λ_ _ d _ _ h=>by cases d<;>exact h
 case hX=>
  intro r wr e;unfold Gu at e
  iterate 240 obtain⟨_,e⟩:=e
  obtain⟨hI,f,rfl⟩:=e;obtain⟨k,rest,ag,aU,a9,a6,ab,u,y,bn,a8,cq,Y,ao,aH,aZ,i,aj,be,aQ,aF,aN,hS,bf,bu,bS,cD,bK,bF,hM⟩:=hI;have M:m=k:=by
   rw[i] at f;injection f with _ ac;omega
  subst M;clear a3 i f;obtain⟨bc,ct,L,ev,gp,eC,cB,f4,a4,aT,_⟩:=bF.blk;have b8:rest.list=[]:=be▸Nx (by rw[bp.o];exact MU _);obtain rfl:rest=.nil:=by cases rest<;>simp_all [al.list]
  have dW:dP b l n code=(u,a6):=aQ.symm;obtain⟨bs,am,aK⟩:=aT.two;obtain⟨HA,dX⟩:=aJ bF hM;clear bF hM aT;go_wp2;generalize hX:World.setCell _ _ _=X;obtain⟨eT,dO⟩:=HA.Fu bT.1 (bT.2.cZ dX.o) hX;have fl:=dX.trans dO;clear bs am aK hX dO;rw[dW];refine bodyPost_end (v:=.tuple #[]) (by simp[results,Tryz.results83,go_sem]) rfl ?_;obtain rfl:ab=st+b.num:=by simp only[al.num] at aF;omega
  exact⟨rfl,Y,ao,aH,aZ,y,bS,eT,fl⟩
theorem zt(eg:wq)(U:h2)(nk:Int)(F:List aI):∀b:al,l6 U nk F b:=al.EI (C:=l6 U nk F) λb aq=>w0 eg U nk F b aq
theorem Ll(p:bN)(hp:pe p):Kf p:=λf J GA gn gc MA mn mc FA fn fc bC ln lc PA pn pc f0 bn bc w h hl cc bA=>
 (tD (λU nk F b=>zt Ho U nk F b) p hp f J GA gn gc MA mn mc FA fn fc bC ln lc PA pn pc f0 bn bc w h hl cc bA).mono λ_ _ h=>h
theorem xm(p:bN)(hp:pe p)(GA:NH)(gn gc:Nat)(MA:NH)(mn mc:Nat)(FA:NH)(fn fc:Nat)(w:World)(h:gX w (av w) p GA gn MA mn FA fn) :
  Calls prog 18 #[.agg #[.slice GA gn gc,.slice MA mn mc,.slice FA fn fc]] w (yk w (gQ p)):=zS p hp (Ll p hp) GA gn gc MA mn mc FA fn fc w h
def eO:List aB->al
 | []=>.nil
 | .set v n e::l=>.set v n e (eO l)
 | .call g n aY::l=>.call g n aY (eO l)
 | .lock u r::l=>.lock u r (eO l)
 | .ite e th el::l=>.ite e th el (eO l)
 | .gM e th::l=>.gM e th (eO l)
 | .ret::l=>.ret (eO l)
theorem fT:∀l:List aB,dc (eO l)=l.map bk
 | []=>rfl
 | .set v n e::l=>by simp only[eO,dc,M7,bk,fT l]
 | .call g n aY::l=>by simp only[eO,dc,M7,bk,fT l]
 | .lock u r::l=>by simp only[eO,dc,M7,bk,fT l]
 | .ite e th el::l=>by simp only[eO,dc,M7,bk,fT l]
 | .gM e th::l=>by simp only[eO,dc,M7,bk,fT l]
 | .ret::l=>by simp only[eO,dc,M7,bk,fT l]
def kI(T:List Tok):Nat->Nat->Option (List bM×List aI)
 | 0,_=>none
 | f+1,k=>if ui 5 T k then some ([],[]) else match T[k+1]? with
  | none=>none
  | some t=>if t.kind=1 then
    if cb [109,117,116,101,120] T k && !cb [91] T (k+2) && cb [59] T (k+2) && decide (k+3<T.length) then (kI T f (k+3)).map λq=>(⟨strOf t.text,false,0⟩::q.1,q.2)
    else if cb [102,117,110,99] T k then
     (xn T (k+2)).bind λr=>if cb [123] T (eR (k+2) r) && decide (eR (k+2) r+1<T.length) then (j2 T 100 (eR (k+2) r+1)).bind λs=>(kI T f s.2).map λq=>(q.1,⟨strOf t.text,r.map kH,eO s.1⟩::q.2) else none
    else none
   else none
theorem xC{f k:Nat}{ms:List bM}{fs:List aI}(h:kI T f k=some (ms,fs)):(ui 5 T k=true/\ms=[]/\fs=[])\/(ui 5 T k=false/\∃(t:Tok) (f2:Nat),T[k+1]?=some t/\t.kind=1/\
  ((∃b5,cb [109,117,116,101,120] T k=true/\cb [91] T (k+2)=false/\cb [59] T (k+2)=true/\k+3<T.length/\kI T f2 (k+3)=some (b5,fs)/\ms=⟨strOf t.text,false,0⟩::b5)\/(∃r ls bR a2,cb [102,117,110,99] T k=true/\zn T (k+2) r/\cb [123] T (eR (k+2) r)=true/\eR (k+2) r+1<T.length/\j2 T 100 (eR (k+2) r+1)=some (ls,bR)/\kI T f2 bR=some (ms,a2)/\fs=⟨strOf t.text,r.map kH,eO ls⟩::a2))):=by
 cases f with
 | zero=>cases h
 | succ f=>
  unfold kI at h
  cases cB:ui 5 T k with
  | true=>
   rw[cB,if_pos rfl] at h;injection h with h;injection h with ac az
   exact .inl ⟨rfl,ac.symm,az.symm⟩
  | false=>
   rw[cB,if_neg (by simp)] at h;refine .inr ⟨rfl,?_⟩
   cases ht:T[k+1]? with
   | none=>rw[ht] at h;cases h
   | some t=>
    rw[ht] at h;simp only at h;split at h
    .rename_i bv;refine⟨t,f,rfl,bv,?_⟩;split at h
     .rename_i hc;simp only[Ng,Bool.not_eq_true',Ny] at hc
      cases hp:kI T f (k+3) with
      | none=>rw[hp] at h;cases h
      | some q=>
       rw[hp] at h;injection h with h;injection h with ac az;refine .inl ⟨q.1,hc.1.1.1,hc.1.1.2,hc.1.2,hc.2,?_,ac.symm⟩;rw[<-az]
     .split at h
      .rename_i hc
       cases hl:xn T (k+2) with
       | none=>rw[hl] at h;cases h
       | some r=>
        rw[hl] at h;simp only[Option.bind_some] at h;split at h
        .rename_i O;simp only[Ng,Ny] at O
         cases hs:j2 T 100 (eR (k+2) r+1) with
         | none=>rw[hs] at h;cases h
         | some s=>
          rw[hs] at h;simp only[Option.bind_some] at h
          cases hp:kI T f s.2 with
          | none=>rw[hp] at h;cases h
          | some q=>
           rw[hp] at h;injection h with h;injection h with ac az;refine .inr ⟨r,s.1,s.2,q.2,hc,vi hl,O.1,O.2,hs,?_,az.symm⟩;rw[<-ac];exact hp
        .cases h
      .cases h
    .cases h
theorem vW{T:List Tok}:∀(f k:Nat) (ls:List aB) (F:Nat),j2 T f k=some (ls,F)->k<F
 | 0,_,_,_,h=>by cases h
 | f+1,k,ls,F,h=>by
  simp only[j2] at h;split at h
  .split at h
   .injection h with h;injection h with _ h;omega
   .cases h
  .cases hs:ug T k with
   | none=>rw[hs] at h;cases h
   | some p=>
    rw[hs] at h;simp only[Option.bind_some] at h
    cases bv:j2 T f p.2 with
    | none=>rw[bv] at h;cases h
    | some q=>
     rw[bv] at h;injection h with h;injection h with _ h;have ac:=vW f p.2 q.1 q.2 bv;have az:=zb (show ug T k=some (p.1,p.2) from hs);omega
theorem I9:cq prog 54 118 (.agg #[NF,(),()]) 3 64:=cq.mk' Tryz.underlying54 (by kernel_rfl) rfl ad
theorem Fr.II{M M':Nat->Prop}{a b:World}(h:Fr M a b)(hM:∀k,k<a.heap.size->M k->M' k):Fr M' a b:=⟨h.os,h.tape,h.output,h.size,λk aj hn=>h.block k aj λhm=>hn (hM k aj hm)⟩
def FE(g:Nat)(w:World):Nat:=match w.cell? ⟨g,1,none⟩ with|some (.int _ z)=>z.toNat|_=>0
theorem bI.pos{g:Nat}{A:NH}{c:Nat}{k deep:Nat}(h:bI w g A n c T k deep):FE g w=k:=by
 unfold FE;rw[h.blk.cell];rfl
namespace Ds
theorem c4(h:p:=by
 generalize hX:World.setCell _ _ _=X;have cN:=b7.1;have b9:=cP hX;have bE:an X (g+1) 56 #[(),.slice cu (mn+1) c3,.slice FA fn fc]:=hX▸b7.2.2.aK 1 _;have aP:=ay bE b9 (cN.cD b9 λb O _=>ad);clear hX cN b9 bE b0 a8 bw;have N:=bg.on aP.2.1 λb O=>ad;have bC:=N.pos;have bB:=a3.2.2.2.2.2.2.2.2;have j:=ae N;clear N;go_roundw
 case rel=>
  have ct:Fr (λb=>b=g\/b=g+1) V X:=Fr.II (M:=λb=>(b=g\/b=g+1)\/(Value.slice MA mn mc).ownBlock=some b) (Fr.trans (Fr.trans (Fr.trans (Fr.mono a3.2.1 λ_ h=>.inl h) (Fr.mono ap.2 λ_ h=>.inl (.inl h))) (Fr.mono b7.2.1 λ_ h=>.inr h)) (Fr.mono aP.2.1 λ_ h=>.inl (.inr h))) λb O hm=>hm.elim id λhm=>absurd (cF.o b hm) ad
  iterate 101 apply Exists.intro
  refine⟨⟨k+3,f2,cu,mn+1,c3,FA,fn,fc,am++[⟨strOf t.text,false,0⟩],cf,ag,a2,j.o,ct,aP.1,by rw[Na];exact aP.2.2,Q.2.2.2.2.1,?_,a3.2.2.2.2.2.1,?_,a3.2.2.2.2.2.2.2.1⟩,rfl⟩
  .rw[<-a3.2.2.2.2.1,Q.2.2.2.2.2];simp
  .rw[a3.2.2.2.2.2.2.1];simp
 case measure=>rw[bC,bB];have:=j.lt;omega
 ):p:=h
end Ds
open Ds in
theorem sE(s:ByteArray)(b o cap:Nat)(w:World)(ms:List bM)(fs:List aI)(bs:Nat)(h:e4 w b o cap s)(hs:s.size<=4000)(hn:(dU s.data.toList).1.length<=4001)(bf:0<(dU s.data.toList).1.length)(he:(dU s.data.toList).2.2=0)(hp:kI (dU s.data.toList).1 bs 0=some (ms,fs))(bN:ms.length<=12)(cr:fs.length<=16) :
  Calls prog 17 #[.slice (some ⟨b,o,none⟩) s.size cap] w λe ab=>∃(MA:NH) (mn mc:Nat) (FA:NH) (fn fc:Nat) (z:Int),e=.returned (.tuple #[.agg #[(),.slice MA mn mc,.slice FA fn fc],z,(0:Int)])/\gX ab (fresh w ab) ⟨[],ms,fs⟩ none 0 MA mn FA fn/\mn<=mc/\fn<=fc/\Ext w ab:=by
 obtain⟨R,bA⟩:∃R,R=dU s.data.toList:=⟨_,rfl⟩
 rw[<-bA] at hn bf he hp;obtain⟨T,z,cT⟩:=R;simp only at hn bf he hp;subst he;have H:=cQ h hp bN cr bA;clear h hp bN cr bA;go_enter func17,ntmps17;go_upto_region 1 with(fail);generalize be:World.alloc _ _=W;have aF:=aX be;have cx:=aL be;have al:=ah aF cx;have cZ:=cx.lt;clear be aF cx;go_wp2_with(fail);refine(show Calls prog 36 _ W (kO W (T,z,0)) by rw[H.2.2.2.2];exact yR s b o cap W (H.1.on al.1) ad).mono ?_;rintro e aO ⟨A,n,c,rfl,aQ,dz,b2⟩;have aM:Ext W aO:=Fr.of b2;have cD:n=T.length:=dz.1.symm;have c5:n<=4001:=by rw[cD];exact hn
 have cE:0<n:=by rw[cD];exact bf
 have H1:=ay aM dz cD;have cn:=aM.size;clear hn bf b2 aM dz cD aQ;go_upto_region 5 with(fail);generalize hV:World.alloc _ _=V;have aC:=g0 hV;have bn:=e5 hV;have bK:=eT hV;obtain⟨g,aR⟩:∃g,g=aO.heap.size:=⟨_,rfl⟩
 rw[<-aR] at bn bK ⊢;have bT:bI V g A n c T 0 0:=⟨bn,(H1.2.1.cD (Fr.ext aC) aC.size).fA (Below.refl _ _) |> λh=>by
  rw[aR];exact H1.2.1.fA (Fr.ext aC),cE,c5⟩
 have cc:=br bT bK aC aR;have bV:=bK.lt;have el:W<=g:=ad;clear hV aC bn bK bT aR;go_wp2_with(fail);go_loopw [78] (λ_ wr=>∃(k bs:Nat) (MA:NH) (mn mc:Nat) (FA:NH) (fn fc:Nat) (am b5:List bM) (ag a2:List aI),bI wr g A n c T k 0/\Fr (λb=>b=g\/b=g+1) V wr/\an wr (g+1) 56 #[(),.slice MA mn mc,.slice FA fn fc]/\lS V 112 3 118 3 wr MA mn mc (am.map eF) FA fn fc (ag.map dA)/\kI T bs k=some (b5,a2)/\am++b5=ms/\ag++a2=fs/\mn=am.length/\fn=ag.length) (λ_ wr=>4001 - FE g wr)
 case atStart=>exact⟨0,bs,none,0,0,none,0,0,[],ms,[],fs,cc.1,NC,cc.2.1,lS.nil _ _ _ _ _ _,H.2.1,rfl,rfl,rfl,rfl⟩
 case round=>
  obtain⟨k,cR,MA,mn,mc,FA,fn,fc,am,b5,ag,a2,bh,hF,aT,hG,cw,aJ,aA,dS,cm⟩:=hrel;have ce:=bh.lt;have bN:am.length+b5.length<=12:=by have:=H.2.2.1;rw[<-aJ,M3] at this;exact this
  have cr:ag.length+a2.length<=16:=by have:=H.2.2.2.1;rw[<-aA,M3] at this;exact this
  have u:=bh.pos;have a3:=yl bh hF aT hG aJ aA dS cm u;have fk:=hF.size;obtain⟨a0,ak,af⟩:=bh.blk.two;rcases xC cw with⟨cB,cS,df⟩|⟨cB,t,f2,ht,bv,ck⟩
  .have bW:=ay cB cS df;clear cB cS df bh hF aT hG aJ aA cw bN cr dS cm u;go_wp2_with(fail);refine(pI 5 g A n c T k 0 wr a3.1).mono ?_;rintro e aW ⟨rfl,a7⟩;rw[bW.1];have b1:=ae a7;clear a0 ak af;obtain⟨a0,ak,af⟩:=(a3.1.blk.aj a7).two;obtain⟨b0,a8,bw⟩:=(a3.2.2.1.aj a7).two;have aq:Ext W aW:=Fr.low (M:=λb=>b=g\/b=g+1) (Fr.trans (Fr.mono (H1.1.trans cc.2.2.1) λ_ h=>h.elim) (Fr.trans a3.2.1 (Fr.mono a7 λ_ h=>h.elim))) λb O=>ad;have aa:=al.2.aj aq;have S:=ah aa (al.1.trans aq);obtain⟨bq,a1,a5⟩:=aa.two;have bO:=a7.size;clear a7 aq aa;go_wp2_with(fail);generalize hX:World.setCell _ _ _=Z;obtain⟨bm,bd,a4⟩:=a9 (w:=w) [(),.slice MA mn mc,.slice FA fn fc] (by rfl) S.1 S.2 ad hX;have bj:=ah bd a4;clear hX bd a4 bq a1 a5 a0 ak af b0 a8 bw;obtain⟨bq,a1,a5⟩:=bm.two;refine NB (v:=.tuple #[.agg #[(),.slice MA mn mc,.slice FA fn fc],z,(0:Int)]) (by simp[results,Tryz.results17,go_sem,bq]) rfl ?_;have hm:am=ms:=by have:=a3.2.2.2.2.1;rw[bW.2.1,Nt] at this;exact this
   have J:ag=fs:=by have:=a3.2.2.2.2.2.1;rw[bW.2.2,Nt] at this;exact this
   have bo:=a3.2.2.2.1.aj b1.o;have cY:=bj.2.size;have bc:=bo.cD bj.2 λb O _=>by have:=cc.2.2.1.size;omega
   rw[hm,J] at bc;have dm:=cc.2.2.1.size;exact⟨MA,mn,mc,FA,fn,fc,z,rfl,⟨Sl.bY _,bc.one.sl (λb ac az=>⟨by have:=az.1;omega,ac⟩) (λb ac az=>⟨ad,ac⟩),bc.two.sl (λb ac az=>⟨by have:=az.1;omega,ac⟩) (λb ac az=>⟨ad,ac⟩)⟩,bc.one.cap.1,bc.two.cap.1,bj.1⟩
  .rcases ck with⟨cf,da,cW,bH,aD,cJ,b3⟩|⟨r,ls,bR,ca,da,cW,aD,cJ,b3,eq,cl⟩
   ·
    have cj:T.length<=n:=Nat.le_of_eq H1.2.2.symm;have b8:b5.length=cf.length+1:=by rw[b3];rfl
    have bU:mn<=11:=ad;have cv:((mn:Int) == 12)=false:=by simp;omega
    have ed:k+3<n:=ad;have ch:=ae cB;have P:=ay da (show cb [118,97,114] T k=false from fx da (by decide)) (show cb [102,117,110,99] T k=false from fx da (by decide));have Q:=dH ht bv cW bH cJ b3;clear bh hF aT hG aJ aA cw dS cm u cB da cW bH aD cJ b3 ht bv b8 bN cr;have bt:g+1≠g:=ad;go_wp2_with(fail);refine(pI 5 g A n c T k 0 wr a3.1).mono ?_;rintro e v0 ⟨rfl,a7⟩;rw[ch.o];have bl:=ah (a3.1.aj a7) (a7.mono (M':=λb=>b=g) λ_ h=>h.elim);clear a7 a0 ak af;go_wp2_with(fail);refine(show Calls prog 38 #[.pointer (some ⟨g,0,none⟩),.string ⟨#[118,97,114]⟩] v0 _ from l2 [118,97,114] g A n c T (k) 0 v0 bl.1).mono ?_;rintro e v1 ⟨rfl,aF⟩;rw[P.2.1];have bX:=ah (bl.1.aj aF) (bl.2.trans (aF.mono (M':=λb=>b=g) λ_ h=>h.elim));clear aF;go_wp2_with(fail);refine(show Calls prog 38 #[.pointer (some ⟨g,0,none⟩),.string ⟨#[109,117,116,101,120]⟩] v1 _ from l2 [109,117,116,101,120] g A n c T (k) 0 v1 bX.1).mono ?_;rintro e v2 ⟨rfl,aF⟩;rw[P.1];have aB:=ah (bX.1.aj aF) (bX.2.trans (aF.mono (M':=λb=>b=g) λ_ h=>h.elim));clear aF;go_wp2_with(fail);refine(show Calls prog 38 #[.pointer (some ⟨g,0,none⟩),.string ⟨#[102,117,110,99]⟩] v2 _ from l2 [102,117,110,99] g A n c T (k) 0 v2 aB.1).mono ?_;rintro e ai ⟨rfl,aF⟩;rw[P.2.2];have aV:=ah (aB.1.aj aF) (aB.2.trans (aF.mono (M':=λb=>b=g) λ_ h=>h.elim));clear aF;obtain⟨b0,a8,bw⟩:=(a3.2.2.1.on aV.2 ad).two;go_wp2_with(fail)
    refine(show Calls prog 40 #[.pointer (some ⟨g,0,none⟩),.string ⟨#[118,97,114]⟩] ai _ from cL [118,97,114] g A n c T (k) 0 ai aV.1 false P.2.1 (λh=>by cases h)).mono ?_;rintro e v4 ⟨rfl,bh,hF⟩;have bG:=ah (show bI v4 g A n c T (k) 0 from by simpa using bh) (aV.2.trans hF);clear bh hF;clear b0 a8 bw;go_wp2_with(fail);refine(show Calls prog 40 #[.pointer (some ⟨g,0,none⟩),.string ⟨#[109,117,116,101,120]⟩] v4 _ from cL [109,117,116,101,120] g A n c T (k) 0 v4 bG.1 true P.1 (λ_=>ad)).mono ?_;rintro e bu ⟨rfl,bh,hF⟩;have bP:=ah (show bI bu g A n c T (k+1) 0 from by simpa using bh) (bG.2.trans hF);clear bh hF;obtain⟨b0,a8,bw⟩:=(a3.2.2.1.on bP.2 ad).two;go_upto_region 13 with(fail);refine eJ (λb=>b=g) [(0,3),(1,0),(2,3),(3,1),(4,1),(5,2),(6,3),(7,2)] ?_;refine pf ?_;refine oP ?_;refine pf ?_;refine aE rfl (λK hK=>?_);go_simp;refine(FJ g A n c T (k+1) 0 bu.drew t (bP.1.aj (Fr.refl _ bu).drew) Q.1 Q.2.1 Q.2.2.1 Q.2.2.2.1 ed).mono ?_;rintro e v6 ⟨rfl,bh,hF⟩;have ap:=ah (show bI v6 g A n c T (k+3) 0 from bh) (bP.2.trans (Fr.aF hF));refine dB hK (hF) ?_;clear hK K;clear bh hF b0 a8 bw;refine rS ?_;have bQ:=a3.2.2.2.1.cD ap.2 λb O _=>ad;have aZ:=ap.2.size;have bi:=ae bQ;have cy:=a3.2.2.1.on ap.2 bt;have bD:=ae cy;clear bQ cy;refine au rfl (λK hK=>?_);rw[if_pos (by rfl)];refine rA mf (.tmp 92) (.tmp 95) (by rfl) bi.one (d:=eF ⟨strOf t.text,false,0⟩) (cs:=#[.string (strOf t.text),.bool false,.int .i64 0]) (fv.2 rfl) (by rfl) (by rfl) (by rfl) ad ad ad ?_
    intro cu c3 cG cd g2 cA c6;have bp:∀b,(Value.slice MA mn mc).ownBlock=some b->V.heap.size<=b:=λb O=>(bi.one.lt O).1;have b7:=ay (bi.grow cd g2 cA) g2 (bD.on g2 λO=>by have:=bp _ O;omega);have bg:=ae (ap.1.on g2 λb O=>by have:=bp b O;omega);have cF:=ae bp;obtain⟨b0,a8,bw⟩:=b7.2.2.two;clear cd g2 cA c6 bp;refine dY hK ?_;clear hK K;refine pf ?_;exact ew
   ·
    have cj:T.length<=n:=Nat.le_of_eq H1.2.2.symm;have b8:a2.length=ca.length+1:=by rw[cl];rfl
    have cH:fn<=15:=ad;have cq:((fn:Int) == 16)=false:=by simp;omega
    have he:k+4<=eR (k+2) r:=yS _ _;have aS:eR (k+2) r+1<n:=ad;have cK:=vW _ _ _ _ b3;have ch:=ae cB;have P:=br da (show cb [118,97,114] T k=false from fx da (by decide)) (show cb [109,117,116,101,120] T k=false from fx da (by decide)) (show cb [114,109,117,116,101,120] T k=false from fx da (by decide));have Q:=hz ht bv cW aD b3 eq cl;clear bh hF aT hG aJ aA cw dS cm u cB da cW aD cJ b3 eq cl ht bv b8 bN cr;have bt:g+1≠g:=ad;go_wp2_with(fail);refine(pI 5 g A n c T k 0 wr a3.1).mono ?_;rintro e v0 ⟨rfl,a7⟩;rw[ch.o];have bl:=ah (a3.1.aj a7) (a7.mono (M':=λb=>b=g) λ_ h=>h.elim);clear a7 a0 ak af;go_wp2_with(fail);refine(show Calls prog 38 #[.pointer (some ⟨g,0,none⟩),.string ⟨#[118,97,114]⟩] v0 _ from l2 [118,97,114] g A n c T (k) 0 v0 bl.1).mono ?_;rintro e v1 ⟨rfl,aF⟩;rw[P.2.1];have bX:=ah (bl.1.aj aF) (bl.2.trans (aF.mono (M':=λb=>b=g) λ_ h=>h.elim));clear aF;go_wp2_with(fail);refine(show Calls prog 38 #[.pointer (some ⟨g,0,none⟩),.string ⟨#[109,117,116,101,120]⟩] v1 _ from l2 [109,117,116,101,120] g A n c T (k) 0 v1 bX.1).mono ?_;rintro e v2 ⟨rfl,aF⟩;rw[P.2.2.1];have aB:=ah (bX.1.aj aF) (bX.2.trans (aF.mono (M':=λb=>b=g) λ_ h=>h.elim));clear aF;go_wp2_with(fail);refine(show Calls prog 38 #[.pointer (some ⟨g,0,none⟩),.string ⟨#[114,109,117,116,101,120]⟩] v2 _ from l2 [114,109,117,116,101,120] g A n c T (k) 0 v2 aB.1).mono ?_;rintro e ai ⟨rfl,aF⟩;rw[P.2.2.2];have aV:=ah (aB.1.aj aF) (aB.2.trans (aF.mono (M':=λb=>b=g) λ_ h=>h.elim))
    clear aF;go_wp2_with(fail);refine(show Calls prog 38 #[.pointer (some ⟨g,0,none⟩),.string ⟨#[102,117,110,99]⟩] ai _ from l2 [102,117,110,99] g A n c T (k) 0 ai aV.1).mono ?_;rintro e v4 ⟨rfl,aF⟩;rw[P.1];have bG:=ah (aV.1.aj aF) (aV.2.trans (aF.mono (M':=λb=>b=g) λ_ h=>h.elim));clear aF;obtain⟨b0,a8,bw⟩:=(a3.2.2.1.on bG.2 ad).two;go_wp2_with(fail);refine(show Calls prog 40 #[.pointer (some ⟨g,0,none⟩),.string ⟨#[118,97,114]⟩] v4 _ from cL [118,97,114] g A n c T (k) 0 v4 bG.1 false P.2.1 (λh=>by cases h)).mono ?_;rintro e bu ⟨rfl,bh,hF⟩;have bP:=ah (show bI bu g A n c T (k) 0 from by simpa using bh) (bG.2.trans hF);clear bh hF;clear b0 a8 bw;go_wp2_with(fail);refine(show Calls prog 40 #[.pointer (some ⟨g,0,none⟩),.string ⟨#[109,117,116,101,120]⟩] bu _ from cL [109,117,116,101,120] g A n c T (k) 0 bu bP.1 false P.2.2.1 (λh=>by cases h)).mono ?_;rintro e v6 ⟨rfl,bh,hF⟩;have ap:=ah (show bI v6 g A n c T (k) 0 from by simpa using bh) (bP.2.trans hF);clear bh hF;go_wp2_with(fail);refine(show Calls prog 40 #[.pointer (some ⟨g,0,none⟩),.string ⟨#[114,109,117,116,101,120]⟩] v6 _ from cL [114,109,117,116,101,120] g A n c T (k) 0 v6 ap.1 false P.2.2.2 (λh=>by cases h)).mono ?_;rintro e cG ⟨rfl,bh,hF⟩;have co:=ah (show bI cG g A n c T (k) 0 from by simpa using bh) (ap.2.trans hF);clear bh hF;go_wp2_with(fail)
    refine(show Calls prog 40 #[.pointer (some ⟨g,0,none⟩),.string ⟨#[102,117,110,99]⟩] cG _ from cL [102,117,110,99] g A n c T (k) 0 cG co.1 true P.1 (λ_=>ad)).mono ?_;rintro e ba ⟨rfl,bh,hF⟩;have cp:=ah (show bI ba g A n c T (k+1) 0 from by simpa using bh) (co.2.trans hF);clear bh hF;go_wp2_with(fail);refine(nc g A n c T (k+1) 0 ba t cp.1 Q.1 Q.2.1 ad).mono ?_;rintro e bz ⟨rfl,bh,hF⟩;have cg:=ah (show bI bz g A n c T (k+2) 0 from bh) (cp.2.trans hF);have cz:=cg.2.size;clear bh hF;go_upto_region 18 with(fail);generalize hX:World.alloc _ _=Z;have bd:=aX hX;have L:=aL hX;have aN:=ay (cg.1.aj bd) (cg.2.trans (bd.mono (M':=λb=>b=g) λ_ h=>h.elim)) L;have hR:g<bz:=cg.1.blk.lt;clear hX bd L;go_wp2_with(fail);refine(xD g A n c T (k+2) 0 r Z aN.1 Q.2.2.1 ad).mono ?_;rintro e v11 ⟨a6,m,l,rfl,hm,bh,hF,bx⟩;have L:=aN.2.2.on hF ad;have bZ:bz<Z.heap.size:=aN.2.2.lt;have U:=cQ bh (aN.2.1.trans hF) L hm (bx.mono (cU:=λb=>bz.heap.size<b/\b<v11.heap.size) λb O=>⟨by have:=O.1;omega,O.2⟩);obtain⟨ci,aH,aK⟩:=L.two;clear bh hF L hm bx bZ;go_upto_region 19 with(fail);generalize hX:World.setCell _ _ _=Y;have ar:=cP hX;have L:an Y bz 118 #[.string (strOf t.text),.slice a6 m l,()]:=hX▸U.2.2.1.aK 1 (.slice a6 m l);have bx:=(U.2.2.2.2.ak λb O=>ar.block b O.2 (ax O.1)).mono (cU:=λb=>bz.heap.size<b/\b<Y.heap.size) λb O=>⟨O.1,by have:=O.2;have:=ar.size;omega⟩
    have ao:=cQ (U.1.on ar λb O=>ad) (U.2.1.eW (ar.below U.2.1.size λk aj h=>ad)) L U.2.2.2.1 bx;have cI:bz<Y.heap.size:=L.lt;clear hX ar L ci aH aK bx;go_wp2_with(fail);refine(FI g A n c T (eR (k+2) r) 0 Y 100 ls bR ao.1 ad Q.2.2.2.1 ad Q.2.2.2.2.1).mono ?_;rintro e aw ⟨bL,on,bF,rfl,b4,b6,bh,hF⟩;have L:=ao.2.2.1.on hF ad;have bx:=(ao.2.2.2.2.ak λb O=>hF.block b O.2 (ax O.1)).mono (cU:=λb=>bz.heap.size<b/\b<aw.heap.size) λb O=>⟨O.1,by have:=O.2;have:=hF.size;omega⟩
    have y:=hz bh (ao.2.1.trans hF) L b4 b6 ao.2.2.2.1 bx;have cM:=hF.size;obtain⟨ci,aH,aK⟩:=L.two;clear bh hF L b4 b6 bx;go_upto_region 20 with(fail);generalize hX:World.setCell _ _ _=ha;have ar:=cP hX;have L:an ha bz 118 #[.string (strOf t.text),.slice a6 m l,.slice bL on bF]:=hX▸y.2.2.1.aK 2 (.slice bL on bF);have av:Fr (λb=>b=g) wr ha:=y.2.1.eW (ar.below y.2.1.size λk aj h=>ad);have bQ:=a3.2.2.2.1.cD av λb O _=>ad;have aZ:=av.size;have cO:=ar.size;have bS:Sl ha (fresh Y aw) bL on (ls.map bk):=y.2.2.2.2.1.ak λb O=>ar.block b O.2 (ax O.1);have bb:∀b,(Value.slice MA mn mc).ownBlock=some b->b<wr.heap.size:=λb O=>(a3.2.2.2.1.one.lt O).2;have aU:∀b,(Value.slice FA fn fc).ownBlock=some b->b<wr.heap.size:=λb O=>(a3.2.2.2.1.two.lt O).2;have aY:Sl ha (λb=>bz.heap.size<b/\b<aw.heap.size) a6 m ((r.map kH).map cC):=y.2.2.2.2.2.2.ak λb O=>ar.block b O.2 (ax O.1);have bY:(dA ⟨strOf t.text,r.map kH,eO ls⟩).rep ha (lD (λb=>V.heap.size<=b/\(Value.slice MA mn mc).ownBlock≠some b) ha (.slice FA fn fc)) [.string (strOf t.text),.slice a6 m l,.slice bL on bF]:=
     lr.2 ⟨a6,m,l,bL,on,bF,rfl,y.2.2.2.2.2.1,y.2.2.2.1,aY.mono λb O=>⟨⟨by have:=O.1;omega,λh=>by have:=bb b h;have:=O.1;omega⟩,by have:=O.2;omega,λh=>by have:=aU b h;have:=O.1;omega⟩,by rw[fT];exact bS.mono λb O=>⟨⟨by have:=O.1;omega,λh=>by have:=bb b h;have:=O.1;omega⟩,by have:=O.2;omega,λh=>by have:=aU b h;have:=O.1;omega⟩⟩
    have bi:=ah bQ bY;have cy:=a3.2.2.1.on av bt;have bD:=ae cy;have ap:=ah (y.1.on ar λb O=>ad) av;clear hX ar av bQ bS aY bb aU bY ci aH aK;obtain⟨ci,aH,aK⟩:=L.two;obtain⟨b0,a8,bw⟩:=cy.two;clear L cy;go_wp2_with(at_builtin;refine bJ I9 rfl (.tmp 121) (.tmp 123) rfl bi.1.two (d:=dA ⟨strOf t.text,r.map kH,eO ls⟩) (cs:=#[.string (strOf t.text),.slice a6 m l,.slice bL on bF]) bi.2 rfl rfl rfl ad ad ad ?_;intro cu c3 cG cd g2 cA c6;have bp:∀b,(Value.slice FA fn fc).ownBlock=some b->V.heap.size<=b:=λb O=>(bi.1.two.lt O).1;have b7:=ay ((bi.1.swap.grow cd g2 cA).swap) g2 (bD.on g2 λO=>by have:=bp _ O;omega);have bg:=ae (ap.1.on g2 λb O=>by have:=bp b O;omega);have cF:=ae bp;clear b0 a8 bw ci aH aK;obtain⟨b0,a8,bw⟩:=b7.2.2.two;clear cd g2 cA c6 bp);generalize hX:World.setCell _ _ _=X;have cN:=b7.1;have b9:=cP hX;have bE:an X (g+1) 56 #[(),.slice MA mn mc,.slice cu (fn+1) c3]:=hX▸b7.2.2.aK 2 _;have aP:=ay bE b9 (cN.cD b9 λb O _=>ad);clear hX cN b9 bE b0 a8 bw;have N:=bg.on aP.2.1 λb O=>ad;have bC:=N.pos;have bB:=a3.2.2.2.2.2.2.2.2;have j:=ae N;clear N;go_roundw
    case rel=>
     have ct:Fr (λb=>b=g\/b=g+1) V X:=Fr.II (M:=λb=>(b=g\/b=g+1)\/(Value.slice FA fn fc).ownBlock=some b) (Fr.trans (Fr.trans (Fr.trans (Fr.mono a3.2.1 λ_ h=>.inl h) (Fr.mono ap.2 λ_ h=>.inl (.inl h))) (Fr.mono b7.2.1 λ_ h=>.inr h)) (Fr.mono aP.2.1 λ_ h=>.inl (.inr h))) λb O hm=>hm.elim id λhm=>absurd (cF.o b hm) ad;refine⟨bR,f2,MA,mn,mc,cu,fn+1,c3,am,b5,ag++[⟨strOf t.text,r.map kH,eO ls⟩],ca,j.o,ct,aP.1,by rw[Na];exact aP.2.2,Q.2.2.2.2.2.1,a3.2.2.2.2.1,?_,a3.2.2.2.2.2.2.1,?_⟩
     .rw[<-a3.2.2.2.2.2.1,Q.2.2.2.2.2.2];simp
     .rw[a3.2.2.2.2.2.2.2.1];simp
    case measure=>rw[bC,bB];have:=j.lt;omega
namespace D6
theorem wC(h:p:=by
 rw[bZ.o];exact fw (B:=V.heap.size) bB.1 bj.2.drew (λb O=>⟨λhl=>by have:=H.o b hl;omega,ad⟩) (λb O=>by have:=H.o b O;omega) ad bj.1.drew (by rw[yY bW.2.1,List.set_set])
 ):p:=h
theorem c4(h:p:=by
 generalize hX:World.setCell _ _ _=Y;obtain⟨n,bM⟩:=aP.1.drop hX;have ar:=cP hX;have r:=(aP.1.lo O (by simp)).1;have G:Ext V Y:=Fr.low (M:=λb=>b=O) (Fr.trans (Fr.mono aP.2.1 λ_ h=>h.elim) ar) λb O=>ad;have bB:=ay n bM (bO.trans G);have bl:=G.size;clear hX n bM ar G a0 ak af bs am aK d0 aQ aS e0 a6 ag c0 c1 c2 c3 J flb ab;exact wB
 ):p:=h
theorem Ct(h:p:=by
 iterate 3 refine pf ?_
 exact ew
 ):p:=h
theorem s5(h:p:=by
 clear ci cf bt;rcases cX.o with h|h
 all_goals
  first
   | have q1:(x.op == 1)=true:=by simpa using h
   | have q1:(x.op == 1)=false:=by simp;omega
  first
   | have cL:(x.op == 2)=true:=by simpa using h
   | have cL:(x.op == 2)=false:=by simp;omega
  first
   | have de:(x.op == 3)=true:=by simpa using h
   | have de:(x.op == 3)=false:=by simp;omega
  first
   | have dc:(x.op == 4)=true:=by simpa using h
   | have dc:(x.op == 4)=false:=by simp;omega
  first
   | have q5:(x.op == 5)=true:=by simpa using h
   | have q5:(x.op == 5)=false:=by simp;omega
  first
   | have dj:(x.op == 6)=true:=by simpa using h
   | have dj:(x.op == 6)=false:=by simp;omega
  first
   | have q7:(x.op == 7)=true:=by simpa using h
   | have q7:(x.op == 7)=false:=by simp;omega
  first
   | have dJ:(x.op == 8)=true:=by simpa using h
   | have dJ:(x.op == 8)=false:=by simp;omega
 ·
  have bZ:=ae (y8 (u:=u) (s:=s) (t:=t) (f:=f) h);clear h;go_upto_region 45 with(fail);generalize hX:World.setCell _ _ _=Y;have l:=aP.1.pc x.target;rw[hX] at l;have ar:=cP hX;have G:Ext V Y:=Fr.low (M:=λb=>b=lb) (Fr.trans (Fr.mono aP.2.1 λ_ h=>h.elim) ar) λb O=>ad;have bB:=ay l.is l.o (bO.trans G);have bl:=G.size;clear hX l ar G a0 ak af bs am aK d0 aQ aS e0 a6 ag c0 c1 c2 c3 J flb ab;exact H4
 ·
  have bZ:=ae (y9 (u:=u) (s:=s) (t:=t) (f:=f) h);clear h;go_upto_region 9 with(fail);exact Cs
 ):p:=h
theorem s7(h:p:=by
 exact s4
 ):p:=h
theorem s9(h:p:=by
 exact s6
 ):p:=h
end D6
open D6 in
theorem rh(u:aw)(s:ai)(t:Int)(f:ao)(cq:cR)(x:aA)(N:Nat)(P:Nat->Prop)(w:World)(p:UV)(q:SV)(h:jJ u s t f cq x N)(hN:N<=100000)(cp:x.op=7\/x.op=8)(hu:p.Ok w u)(bn:q.Is w P s)(bh:∀b,P b->b<w.heap.size) :
  Calls prog 51 #[.agg (p.val u),.agg (q.val s),t] w (dd P w (b5 u s t f x).1 (b5 u s t f x).2):=by
 exact s8
def gY(w:World)(L:List Int)(e:Ending)(ab:World):Prop:=∃A c,e=.returned (.slice A L.length c)/\L.length<=c/\cp (EF bQ) 1 ab ab.heap.size A L.length L/\Ext w ab
theorem gY.own{L:List Int}{v:Value}{B:Nat}(hn:L.length=n)(h:ab.ownsRow B 3 1 v n (L.flatMap bQ))(he:Ext w ab):gY w L (.returned v) ab:=by
 subst hn;obtain⟨cR,c1,rfl,c4,_,_,_⟩:=bG h;exact⟨cR,c1,rfl,c4,gH h (gE _) rfl,he⟩
theorem gY.nil(he:Ext w ab):gY w [] (.returned (.slice none 0 0)) ab:=gY.own (B:=0) rfl (World.ownsRow_nil _ _ _ _) he
def IN:Value->Nat
 | .slice _ n _=>n
 | _=>0
def qi(l:List Int)(k:Nat):List Int:=((List.range k).map Int.ofNat).filter λt=>decide (0<=eA l (l.length+1) t)
def dr(l:List Int)(t:Int):List Int:=match jn l t with
 | none=>[]
 | some m=>(List.range (m+1)).map λk=>eA l k t
section
variable {l:List Int} {t:Int} {k:Nat}
theorem GP(h:0<=eA l (l.length+1) (k:Int)):qi l (k+1)=qi l k++[(k:Int)]:=by
 exact A5
theorem GO(h:¬0<=eA l (l.length+1) (k:Int)):qi l (k+1)=qi l k:=by
 exact A5
theorem w3(h:∀i,i<l.length->eA l (i+1) t≠t):jn l t=none:=by
 unfold jn;rw[List.find?_eq_none];intro i aN;simpa using h i (List.mem_range.1 aN)
theorem uJ(h:∀i,i<m->eA l (i+1) t≠t)(hm:m<l.length)(he:eA l (m+1) t=t):jn l t=some m:=by
 unfold jn;rw[List.find?_range_eq_some];exact⟨by simpa using he,List.mem_range.2 hm,λj bi=>by simpa using h j bi⟩
theorem ox(h:∀i,i<l.length->eA l (i+1) t≠t):dr l t=[]:=by unfold dr;rw[w3 h]
theorem uE(h:∀i,i<m->eA l (i+1) t≠t)(hm:m<l.length)(he:eA l (m+1) t=t):dr l t=(List.range (m+1)).map λk=>eA l k t:=by
 unfold dr;rw[uJ h hm he]
theorem mh:(jn l t).isSome=true↔dr l t≠[]:=by
 unfold dr;cases jn l t<;>simp
theorem zx(h:∀j:Nat,j<l.length->dr l (j:Int)=[]):zw l=[]:=by
 unfold zw;have:((List.range l.length).map Int.ofNat).find? (λt=>(jn l t).isSome)=none:=by
  rw[List.find?_eq_none];intro x hx;obtain⟨j,bi,rfl⟩:=Ns.1 hx;intro hc;exact mh.1 hc (h j (List.mem_range.1 bi))
 rw[this]
theorem w4(h:∀j:Nat,j<k->dr l (j:Int)=[])(aj:k<l.length)(hc:dr l (k:Int)≠[]):zw l=dr l (k:Int):=by
 have J:((List.range l.length).map Int.ofNat).find? (λt=>(jn l t).isSome)=some (k:Int):=by
  rw[List.find?_map];have:(List.range l.length).find? ((λt=>(jn l t).isSome) ∘ Int.ofNat)=some k:=by
   rw[List.find?_range_eq_some];refine⟨mh.2 hc,List.mem_range.2 aj,λj bi=>?_⟩;have ac:=h j bi;simp only[Function.comp,Bool.not_eq_true']
   cases hs:(jn l (Int.ofNat j)).isSome with
   | false=>rfl
   | true=>exact absurd ac (mh.1 hs)
  rw[this];rfl
 unfold zw;rw[J];unfold dr at hc ⊢
 cases bv:jn l (k:Int) with
 | none=>rw[bv] at hc;exact absurd rfl hc
 | some m=>simp only[bv,Option.getD_some]
theorem E4:((List.range (k+1)).map λi=>eA l i t).flatMap bQ=((List.range k).map λi=>eA l i t).flatMap bQ++[.int .i64 (eA l k t)]:=by
 rw[List.range_succ,Na,List.map_singleton,dT]
end
theorem wV(A:NH)(n c:Nat)(l:List Int)(t:Int)(w:World)(h:cp (EF bQ) 1 w w.heap.size A n l)(hl:dh l)(c5:0<=t)(a5:t<n)(hn:n<=32) :
  Calls prog 54 #[.slice A n c,t] w (gY w (dr l t)):=by
 have hlen:l.length=n:=by have:=h.1;omega
 have ba:=λk=>sk hl (t:=t) ad ad k;have cG:=br hl ba hlen h;clear hl ba hlen h;go_enter func54,ntmps54;go_wp2_with(fail);go_loopw [5,6] (λv V wr=>∃k:Nat,V=.int .i64 (eA l k t)/\k<=n+1/\(∀i,i+1<k->eA l (i+1) t≠t)/\wr.ownsRow w 3 1 v k (((List.range k).map λi=>eA l i t).flatMap bQ)/\Below w w wr) (λv _ _=>n+2 - IN v)
 case atStart=>exact⟨0,rfl,ad,λi aN=>ad,World.ownsRow_nil _ _ _ _,Below.refl _ _⟩
 case round=>
  obtain⟨k,rfl,aj,P,aB,O⟩:=hrel;have b3:=O.size;obtain⟨B,bc,rfl,c6,_,_,_⟩:=bG aB;have J:=cG.2.1 k;rw[cG.2.2.1] at J;have bp:k=0->eA l k t=t:=λh=>by subst h;rfl
  have s:0<=eA l k t->eA l (k+1) t=oN l (eA l k t):=λh=>by rw[uZ,G2 h]
  have I:eA l k t<0->dr l t=[]:=λhx=>ox λi aN=>by
   rcases Nat.lt_or_ge (i+1) k with ac|ac
   .exact P i ac
   .intro he;have:=dO (l:=l) (t:=t) (j:=k) (k:=i+1) ad ac;omega
  have u:¬k<=n->dr l t=[]:=λhx=>ox λi aN=>P i (ax cG.2.2.1);have H:eA l k t=t->0<k->k<=n->dr l t=(List.range k).map λi=>eA l i t:=λhe h0 ac=>by
   obtain⟨m,rfl⟩:∃m,k=m+1:=⟨k - 1,ad⟩
   exact uE (λi aN=>P i ad) (ax cG.2.2.1) he
  have cD:=E4 (l:=l) (t:=t) (k:=k);have r:eA l k t≠t->∀i,i+1<k+1->eA l (i+1) t≠t:=λhe i aN=>by
   rcases Nat.lt_or_ge (i+1) k with ac|ac
   .exact P i ac
   .rw[show i+1=k by omega];exact he
  have cT:=hz bp s I u H cD r;clear P bp s I u H cD r;generalize cx:((List.range k).map λi=>eA l i t)=R at *;generalize hX:eA l k t=x at *;generalize cl:eA l (k+1) t=y at *;generalize bx:dr l t=L at *;have a3:=ay aB O cx;have aP:=ah hX cl;clear aB O cx hX cl bx;by_cases hx:0<=x
  case neg=>
   have q1:decide (x>=0)=false:=by simpa using hx
   have bZ:=ae (cT.2.2.1 ad);exact A0
  have q1:decide (x>=0)=true:=by simpa using hx
  have U:x<(n:Int):=J.2;by_cases ce:k<=n
  case neg=>
   have bZ:=ae (cT.2.2.2.1 ce);exact A0
  by_cases iq:x=t/\0<k
  .have de:(x == t)=true:=by simpa using iq.1
   have dc:0<k:=iq.2;have bZ:=ae (cT.2.2.2.2.1 iq.1 iq.2 ce);clear iq cT J;go_wp2_with(fail);go_ret;rw[bZ.o];exact gY.own (by rw[<-a3.2.2];simp) a3.1 (Fr.of a3.2.1)
  .have r:∀i,i+1<k+1->eA l (i+1) t≠t:=by
    rcases Nat.eq_zero_or_pos k with h0|h0
    .intro i aN;omega
    .exact cT.2.2.2.2.2.2 λh=>iq ⟨h,h0⟩
   have cf:=cT.2.1 hx;have b7:=ay r cf cT.2.2.2.2.2.1;obtain⟨j,rfl⟩:=M6 hx;have K:j<n:=ad;obtain⟨b,o,z,rfl,ao,aI,c0⟩:=cG.2.2.2.int K;have Q:z=y:=by
    rw[cf];unfold oN;rw[if_neg ad,Np,List.getD_eq_getElem?_getD,aI];rfl
   subst Q;have aB:=a3.1;have bn:=a3.2.1;have cO:(0:Int)<=(j:Int):=ad;have T:b<wr:=ad;have bY:=ah ao c0;clear r cf aI hx J cT c0 ao;by_cases N:(j:Int)=t
   case' pos=>
    have bE:k=0:=by
     refine Classical.byContradiction λh=>iq ⟨N,ad⟩
    subst bE;have de:((j:Int) == t)=true:=by simpa using N
   case' neg=>
    have de:((j:Int) == t)=false:=by simpa using N
   all_goals
    clear iq N;go_wp2_with(at_builtin;refine b9 _ cF (by rfl) (.tmp 36) (.tmp 38) (by rfl) w _ _ _ _ (by rfl) aB (by rfl) (by rfl) (hL _ _) ad ad b3 ?_;intro v1 aW S aY bC;have cd:=dy bn aB aY (MU _) b3;have c2:=((Fr.of (M:=λ_=>False) cd).cell (j:=o+j) bY.1 (λh=>h)).trans bY.2;have a2:=ah S cd;obtain⟨W,ab,rfl,dG,_,_,_⟩:=bG S;clear aB bn S cd aY bC);go_roundw
    case rel=>exact⟨_,by rw[aP.2],ad,b7.1,by rw[b7.2.2];exact a2.1,a2.2⟩
    case measure=>simp[IN]<;>omega
namespace Ea
theorem Bu(h:p:=by
 generalize bq u s=l at *;clear a0 ak af bs am aK bS aM;go_wp2_with(fail);go_loopw [13] (λb5 wr=>∃k:Nat,b5=.int .i64 k/\k<=hn/\Ext aO wr/\∀j:Nat,j<k->dr l (j:Int)=[]) (λb5 _=>hn - (intOf b5).toNat)
 case atStart=>exact⟨0,rfl,ad,NC,λj bi=>ad⟩
 case round=>
  obtain⟨k,rfl,aj,aF,P⟩:=hrel;have bk:=ah aF P;clear aF P;by_cases ap:k<hn
  .have cU:(k:Int)<(hn:Int):=ad;go_wp2_with(fail);refine(wV A hn c l k wr (H1.1.cD (Fr.ext bk.1) bk.1.size) bT.2 ad cU z).mono ?_;rintro e aW ⟨B,bc,rfl,_,bS,a7⟩;have bH:=ah bS (bk.1.trans a7);clear bS a7;by_cases aI:0<(dr l (k:Int)).length
   .have hc:=w4 (l:=l) (k:=k) bk.2 (by rw[bT.1];exact ap) (λh=>by rw[h] at aI;simp at aI);have bY:=ae hc;clear hc;go_wp2_with(fail);go_ret;rw[bY.o];exact⟨B,bc,rfl,by assumption,bH.1,H1.2.trans bH.2⟩
   .have h0:dr l (k:Int)=[]:=List.eq_nil_of_length_eq_zero ad;have bj:=ae h0;clear h0;go_wp2_with(fail);go_roundw
    case rel=>exact⟨k+1,by go_num,ad,bH.2,λj bi=>by
     rcases Nat.lt_or_ge j k with ac|ac
     .exact bk.2 j ac
     .rw[show j=k by omega];exact bj.o⟩
    case measure=>exact aH
  .have cU:¬(k:Int)<(hn:Int):=ad;have bY:=ae (zx (l:=l) λj bi=>bk.2 j (ax bT.1));go_wp2_with(fail);go_ret;rw[bY.o];exact gY.nil (H1.2.trans bk.1)
 ):p:=h
theorem fP(h:p:=by
 obtain⟨hlen,c5,z⟩:=h.len;have cG:=ah h hlen;clear h hlen;simp only at c5 z;dsimp only[UV.val,SV.val];go_enter func26,ntmps26;go_upto_region 1 with(fail);generalize be:World.alloc _ _=W;have aF:=g0 be;have bX:=e5 be;have bh:=eT be;exact Bt
 ):p:=h
end Ea
open Ea in
theorem Jt(u:aw)(s:ai)(N:Nat)(w:World)(p:UV)(q:SV)(h:kP u s N w p q) :
  Calls prog 26 #[.agg (p.val u),.agg (q.val s)] w (gY w (zw (bq u s))):=by
 exact fO
end Go.Proofs.YtnigabjngpnbiabGreat
