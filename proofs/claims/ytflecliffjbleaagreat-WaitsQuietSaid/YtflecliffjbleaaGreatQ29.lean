/- Part 29 of the proof. No condition of its own. -/
import Derived.Test.YtflecliffjbleaaGreatQ14
import Derived.Test.YtflecliffjbleaaGreatQ27
namespace Go.Proofs.YtflecliffjbleaaGreat
open Go.RowKit Go.Proofs.Tryz
set_option maxRecDepth 1000000
set_option maxHeartbeats 25600000
set_option linter.unusedVariables false
variable{i:Nat}{p:Prop}{w:World}{e:dG}
theorem mT{α:Type}(f:α->ByteArray)(k:Int):∀(l:List α) (j i:Nat),(iy f k l j)[i]?=(l[i]?).map λx=>⟨f x,k,((j+i:Nat):Int)⟩
 | [],j,i=>by simp[iy]
 | x::l,j,0=>by simp[iy]
 | x::l,j,i+1=>by
  rw[iy,List.getElem?_cons_succ,List.getElem?_cons_succ,mT f k l (j+1) i,show j+1+i=j+(i+1) by omega]
theorem ew{α:Type}(f:α->ByteArray)(k:Int):∀(l:List α) (j:Nat),(iy f k l j).length=l.length
 | [],_=>rfl
 | x::l,j=>by simp[iy,ew f k l (j+1)]
theorem k8(p:bD):(bc p).length=p.globals.length+p.ae.length+p.funcs.length:=by simp[bc,ew];omega
theorem E1{p:bD}{g:ByteArray×Int}(h:p.globals[i]?=some g):(bc p)[i]?=some ⟨g.1,1,(i:Int)⟩:=by
 have hl:=(List.getElem?_eq_some_iff.1 h).1;unfold bc;rw[List.getElem?_append_left (by simp[ew];omega),List.getElem?_append_left (by simp[ew];omega),mT,h];simp
theorem E2{p:bD}{m:bF}(h:p.ae[i]?=some m):(bc p)[p.globals.length+i]?=some ⟨m.name,2,(i:Int)⟩:=by
 have hl:=(List.getElem?_eq_some_iff.1 h).1;unfold bc;rw[List.getElem?_append_left (by simp[ew];omega),List.getElem?_append_right (by simp[ew]),ew,mT,show p.globals.length+i - p.globals.length=i by omega,h];simp
theorem xR{p:bD}{f:aA}(h:p.funcs[i]?=some f):(bc p)[p.globals.length+p.ae.length+i]?=some ⟨f.name,3,(i:Int)⟩:=by
 unfold bc;rw[List.getElem?_append_right (by simp[ew]),Ld,ew,ew,mT,show p.globals.length+p.ae.length+i - (p.globals.length+p.ae.length)=i by omega,h];simp
theorem kM{L:List dG}(hn:(L.map (·.name)).Nodup)(he:L[i]?=some e):dv (L.take i) e.name=none:=by
 refine jX λj x bd hx=>?_;have m:j<i:=by have:=(List.getElem?_eq_some_iff.1 bd).1;simp at this;omega
 have g:L[j]?=some x:=by rw[<-bd,List.getElem?_take_of_lt m]
 have ae:(L.map (·.name))[j]?=some x.name:=by rw[List.getElem?_map,g];rfl
 have aD:(L.map (·.name))[i]?=some e.name:=by rw[List.getElem?_map,he];rfl
 have bR:=(List.getElem?_eq_some_iff.1 ae).1;have aM:=(List.getElem?_eq_some_iff.1 aD).1;rw[List.getElem?_eq_getElem bR] at ae;rw[List.getElem?_eq_getElem aM] at aD;injection ae with ae;injection aD with aD;have:=(List.getElem_inj hn).1 (ae.trans (hx.trans aD.symm));omega
theorem n9{p:bD}(hp:oK p):((bc p).map (·.name)).Nodup:=by rw[fM];exact hp.nodup
def EL(w:World)(p:bD)(e:Ending)(ac:World):Prop:=∃(S:LP) (lc:Nat),e=.returned (.tuple #[.slice S (bc p).length lc,.int .i64 (-1)])/\Sl ac (fresh w ac) S (bc p).length ((bc p).map bS)/\Ext w ac
theorem nU{p:bD}{k:Nat}(h:(bc p)[k]?=some e):((bc p).take (k+1)).map bS=((bc p).take k).map bS++[bS e]:=by rw[a1 h,Li];rfl
namespace Cj
theorem fW(h:p:=by
 generalize hV:World.drew (World.alloc _ _)=V;have L:=gX hV;have bV:an V wr.heap.size 147 #[.string f.name,.int .i64 3,.int .i64 j]:=hV▸(LM).drew;obtain⟨b4,aO⟩:=aM L bV;have a7:=ad (a8.trans L);have b8:=ad (bx.aj L);have ak:=ad (bF.aj L);have a2:=kM n.o d;have y:=ak.sl (Q:=au V) (λb _ h=>h.elim) (λb _ h=>by assumption);clear hV L bV c0 aX a0 ap aj;obtain⟨d0,af,aS⟩:=aO.two;go_wp2_with(fail);refine(dS A (gn+mn+j) c _ f.name _ y ab).mono ?_;rintro e aP ⟨rfl,ar⟩
 try simp only at a2
 rw[a2];simp only[iU];have bX:=ad (a7.trans ar);have b6:=ad (b8.aj ar);have bk:=ad (ak.aj ar);have i:=aO.aj ar;clear d0 af aS ar y;go_upto_region 15 with(fail);generalize b7:World.alloc _ _=Y;have s:=bb b7;have l:=i.aj s;have r:=ad (bk.aj s);have bw:=ad (bX.trans s);have T:=ad (b6.aj s);clear b7 i s;obtain⟨d0,af,aS⟩:=l.two;have cw:=bw.size;have aI:=T.lt;clear l;go_wp2_with((at_builtin;refine bI ji rfl (.tmp 88) (.tmp 90) rfl r.o (jW ⟨f.name,3,(j:Int)⟩) rfl rfl rfl ab ab ab ?_;intro A2 c2 aV al ay cf bR));have I:Gr (λ_=>False) (w.heap.size+1) 147 3 aV A2 (gn+mn+j+1) c2 (((bc p).take (gn+mn+j+1)).map bS):=by rw[nU d];exact al
 have a4:Ext w aV:=Fr.low (M:=λb=>w.heap.size<=b) ((bw.mono λ_ h=>h.elim).trans (ay.mono λb O=>by have:=(r.lt O).1;omega)) λ_ h=>h;have aY:=T.on ay λO=>by have:=(r.lt O).1;omega
 have bY:=aL I a4 aY;clear I a4 aY al ay cf d0 af aS;go_wp2;go_roundw
 case rel=>exact⟨rfl,(gn+mn+j)+1,A2,c2,ab,by go_num,rfl,bY.o⟩
 case measure=>exact az
 ):p:=h
theorem sI(h:p:=by
 have n:=ad (n9 hp);obtain⟨cj,dL,b0⟩:=eG aK hm J;have F:=ad (k8 p);have cu:(bc p).length=gn+mn+fn:=by rw[k8,dr,lm,lf]
 have bN:=aL dr lm lf;clear h aK hm J hp dr lm lf;go_enter func69,ntmps69;go_upto_region 1 with(fail);generalize be:World.alloc _ _=W;have aE:=bb be;have aN:=aT be;obtain⟨a8,bx⟩:=aM aE aN;obtain⟨a0,ap,aj⟩:=aN.two;clear be aE aN;go_wp2;clear a0 ap aj;go_loopw [4,5,7] (λgM bv ce wr=>bv=.int .i64 (-1)/\∃(k:Nat) (A:LP) (c:Nat),k<=gn+mn+fn/\ce=.int .i64 k/\gM=.slice A k c/\Gr (λ_=>False) (w.heap.size+1) 147 3 wr A k c (((bc p).take k).map bS)/\Ext w wr/\an wr w.heap.size 70 #[.slice GA gn gc,.slice MA mn mc,.slice FA fn fc]) (λ_ _ ce _=>gn+mn+fn - (intOf ce).toNat)
 case atStart=>exact⟨rfl,0,none,0,ab,rfl,rfl,Gr.nil _ _ _ _ _,a8.o,bx.o⟩
 case round=>
  obtain⟨rfl,k,A,c,ai,rfl,rfl,hG,aE,aN⟩:=hrel;clear a8 bx;obtain⟨bF,a8,bx⟩:=eG hG aE aN;obtain⟨a0,ap,aj⟩:=aN.two;have np:=aE.size;clear hG aE aN;by_cases aw:k<gn+mn+fn
  .by_cases ae:k<gn
   ·
    obtain⟨b,o,g,cs,rfl,O,hx,aQ,bi,Z⟩:=(cj.on (Fr.ext a8.o)).gZ oU ae;obtain rfl:=mP.1 aQ;have c0:=Z 0 _ rfl;simp only[Ll] at c0;have aX:b<wr.heap.size:=O;have d:=E1 hx;have q1:decide ((k:Int) - (gn:Int)<0)=true:=by first|(simp;done)|(simp;omega)
    clear aQ bi Z hx O;go_upto_region 14 with(fail);generalize hV:World.alloc _ _=V;have L:=bb hV;have bV:=aT hV;obtain⟨b4,aO⟩:=aM L bV;have a7:=ad (a8.trans L);have b8:=ad (bx.aj L);have ak:=ad (bF.aj L);have a2:=kM n.o d;have y:=ak.sl (Q:=au V) (λb _ h=>h.elim) (λb _ h=>by assumption);clear hV L bV c0 aX a0 ap aj;obtain⟨d0,af,aS⟩:=aO.two;go_wp2_with(fail);refine(dS A k c _ g.1 _ y ab).mono ?_;rintro e aP ⟨rfl,ar⟩
    try simp only at a2
    rw[a2];simp only[iU];have bX:=ad (a7.trans ar);have b6:=ad (b8.aj ar);have bk:=ad (ak.aj ar);have i:=aO.aj ar;clear d0 af aS ar y;go_upto_region 15 with(fail);generalize b7:World.alloc _ _=Y;have s:=bb b7;have l:=i.aj s;have r:=ad (bk.aj s);have bw:=ad (bX.trans s);have T:=ad (b6.aj s);clear b7 i s;obtain⟨d0,af,aS⟩:=l.two;have cw:=bw.size;have aI:=T.lt;clear l;go_wp2_with((at_builtin;refine bI ji rfl (.tmp 88) (.tmp 90) rfl r.o (jW ⟨g.1,1,(k:Int)⟩) rfl rfl rfl ab ab ab ?_;intro A2 c2 aV al ay cf bR));have I:Gr (λ_=>False) (w.heap.size+1) 147 3 aV A2 (k+1) c2 (((bc p).take (k+1)).map bS):=by rw[nU d];exact al
    have a4:Ext w aV:=Fr.low (M:=λb=>w.heap.size<=b) ((bw.mono λ_ h=>h.elim).trans (ay.mono λb O=>by have:=(r.lt O).1;omega)) λ_ h=>h;have aY:=T.on ay λO=>by have:=(r.lt O).1;omega
    have bY:=aL I a4 aY;clear I a4 aY al ay cf d0 af aS;go_wp2;go_roundw
    case rel=>exact⟨rfl,k+1,A2,c2,ab,by go_num,rfl,bY.o⟩
    case measure=>exact az
   .by_cases aD:k - gn<mn
    ·
     obtain⟨b,o,m,cs,rfl,O,hx,aQ,bi,Z⟩:=(dL.on (Fr.ext a8.o)).gZ sT aD;obtain rfl:=e4.1 aQ;have c0:=Z 0 _ rfl;simp only[Ll] at c0;have aX:b<wr.heap.size:=O;have d:=E2 hx;obtain⟨j,bd⟩:∃j,k=gn+j:=⟨k - gn,ab⟩
     subst bd;have f0:gn+j - gn=j:=ab;rw[f0] at c0 aD d hx;rw[bN.1] at d;have q:(gn:Int)+(j:Int) - (gn:Int)=(j:Int):=ab;have q1:decide ((j:Int)<0)=false:=by first|(simp;done)|(simp;omega)
     have cp:((j:Int)<(mn:Int)):=ab;clear aQ bi Z hx O;go_upto_region 14 with(fail);generalize hV:World.alloc _ _=V;have L:=bb hV;have bV:=aT hV;obtain⟨b4,aO⟩:=aM L bV;have a7:=ad (a8.trans L);have b8:=ad (bx.aj L);have ak:=ad (bF.aj L);have a2:=kM n.o d;have y:=ak.sl (Q:=au V) (λb _ h=>h.elim) (λb _ h=>by assumption);clear hV L bV c0 aX a0 ap aj;obtain⟨d0,af,aS⟩:=aO.two;go_wp2_with(fail);refine(dS A (gn+j) c _ m.name _ y ab).mono ?_;rintro e aP ⟨rfl,ar⟩
     try simp only at a2
     rw[a2];simp only[iU];have bX:=ad (a7.trans ar);have b6:=ad (b8.aj ar);have bk:=ad (ak.aj ar);have i:=aO.aj ar;clear d0 af aS ar y;go_upto_region 15 with(fail);generalize b7:World.alloc _ _=Y;have s:=bb b7;have l:=i.aj s;have r:=ad (bk.aj s);have bw:=ad (bX.trans s);have T:=ad (b6.aj s);clear b7 i s;obtain⟨d0,af,aS⟩:=l.two;have cw:=bw.size;have aI:=T.lt;clear l;go_wp2_with((at_builtin;refine bI ji rfl (.tmp 88) (.tmp 90) rfl r.o (jW ⟨m.name,2,(j:Int)⟩) rfl rfl rfl ab ab ab ?_;intro A2 c2 aV al ay cf bR));have I:Gr (λ_=>False) (w.heap.size+1) 147 3 aV A2 (gn+j+1) c2 (((bc p).take (gn+j+1)).map bS):=by rw[nU d];exact al
     have a4:Ext w aV:=Fr.low (M:=λb=>w.heap.size<=b) ((bw.mono λ_ h=>h.elim).trans (ay.mono λb O=>by have:=(r.lt O).1;omega)) λ_ h=>h;have aY:=T.on ay λO=>by have:=(r.lt O).1;omega
     have bY:=aL I a4 aY;clear I a4 aY al ay cf d0 af aS;go_wp2;go_roundw
     case rel=>exact⟨rfl,(gn+j)+1,A2,c2,ab,by go_num,rfl,bY.o⟩
     case measure=>exact az
    ·
     have aU:k - gn - mn<fn:=ab;obtain⟨b,o,f,cs,rfl,O,hx,aQ,bi,Z⟩:=(b0.on (Fr.ext a8.o)).gZ pX aU;obtain⟨PA,pn,pc,bT,bn,fk,rfl,_,_⟩:=kH aQ;have c0:=Z 0 _ rfl;simp only[Ll] at c0;have aX:b<wr.heap.size:=O;have d:=xR hx;obtain⟨j,bd⟩:∃j,k=gn+mn+j:=⟨k - gn - mn,ab⟩
     subst bd;have f0:gn+mn+j - gn - mn=j:=ab;rw[f0] at c0 aU d hx;rw[bN.1,bN.2.1] at d;have q:(gn:Int)+(mn:Int)+(j:Int) - (gn:Int)=(mn:Int)+(j:Int):=ab;have R:(mn:Int)+(j:Int) - (mn:Int)=(j:Int):=ab;have q1:decide ((mn:Int)+(j:Int)<0)=false:=by first|(simp;done)|(simp;omega)
     have cp:decide ((mn:Int)+(j:Int)<(mn:Int))=false:=by first|(simp;done)|(simp;omega)
     have u:IntKind.i64.wrap (j:Int)=j:=IntWalk.i64_in _ ab;clear aQ bi Z hx O;go_wp2;refine eU (λ_=>False) [(0,3),(1,0),(2,3),(3,3),(4,0),(5,3),(6,3),(7,3),(8,3),(9,0),(10,3),(11,3),(12,0),(13,3),(14,3),(15,3),(16,2)] ?_;refine pf ?_;refine ph ?_
     iterate 2 refine pf ?_
     refine ph ?_
     iterate 4 refine pf ?_
     refine ph ?_
     iterate 2 refine pf ?_
     refine ph ?_
     iterate 3 refine pf ?_
     exact fV
  .obtain rfl:gn+mn+fn=k:=ab;go_wp2
   go_ret2
   refine⟨A,c,by rw[cu];rfl,?_,a8.o⟩;have:=bF.o;rw[Lj ab] at this;rw[cu];exact this.sl (λb _ h=>h.elim) λb ae aD=>⟨ab,ae⟩
 ):p:=h
theorem vH(h:p:=by
 exact sH
 ):p:=h
end Cj
open Cj in
theorem sQ(p:bD)(hp:oK p)(GA:LP)(gn gc:Nat)(MA:LP)(mn mc:Nat)(FA:LP)(fn fc:Nat)(w:World)(h:hh w (au w) p GA gn MA mn FA fn) :
  Calls prog 69 #[.agg #[.slice GA gn gc,.slice MA mn mc,.slice FA fn fc]] w (EL w p):=by
 exact vG
theorem Ds(w:World)(b i:Nat)(v:Value):Fr (λk=>k=b) w.drew (w.setCell ⟨b,i,none⟩ v).drew:=
 have h:=(Fr.refl (λk=>k=b) w).setCell (p:=⟨b,i,none⟩) (.inl rfl) v
 ⟨h.os,h.tape,h.output,h.size,h.block⟩
theorem uh{M:Nat->Prop}{ac:World}(h:Fr M w ac):Fr M w.drew ac.drew:=⟨h.os,h.tape,h.output,h.size,h.block⟩
theorem qD:∀(ps:List (ByteArray×Bool)) (q:ByteArray×Bool) (i k:Int),dM (ps++[q]) i k=dM ps i k++[if q.2 then ⟨q.1,5,k+bK ps⟩ else ⟨q.1,4,i+b2 ps⟩]
 | [],(s,true),i,k=>by simp[dM,bK]
 | [],(s,false),i,k=>by simp[dM,b2]
 | (x,true)::ps,q,i,k=>by
  have:=(gF x true ps).2;have aD:=(gF x true ps).1;rw[Lq,dM,dM,qD ps q i (k+1),this,aD];simp
  split<;>simp<;>omega
 | (x,false)::ps,q,i,k=>by
  have:=(gF x false ps).2;have aD:=(gF x false ps).1;rw[Lq,dM,dM,qD ps q (i+1) k,this,aD];simp;split<;>simp<;>omega
theorem ly(ps:List (ByteArray×Bool))(q:ByteArray×Bool):b2 (ps++[q])=b2 ps+(if q.2 then 0 else 1)/\bK (ps++[q])=bK ps+(if q.2 then 1 else 0):=by
 obtain⟨s,b⟩:=q;cases b<;>simp[b2,bK]
theorem yG{P:Nat->Prop}{p:di}{cs:List Value}:(fX p).rep w P cs↔∃A n c,cs=[.string p.name,.int .i64 p.ints,.int .i64 p.aw,.int .i64 p.locals,.slice A n c]/\n<=c/\Sl w P A n (p.code.map dV):=by
 unfold fX;rw[bB,ch];constructor
 .rintro⟨y,rfl,h⟩;exact Gw
 .rintro⟨A,n,c,rfl,hc,hs⟩;exact⟨_,rfl,a5.2 ⟨_,rfl,a5.2 ⟨_,rfl,a5.2 ⟨_,rfl,aF.2 ⟨A,n,c,[],rfl,hc,hs,aK.2 rfl⟩⟩⟩⟩⟩
def Ih(w:World)(x:di)(e:Ending)(ac:World):Prop:=∃(A:LP) (n c:Nat) (bM:LP) (b2 bo:Nat),
 e=.returned (.tuple #[.agg #[.string x.name,.int .i64 x.ints,.int .i64 x.aw,.int .i64 x.locals,.slice A n c],.slice bM b2 bo,.int .i64 0,.int .i64 0])/\(fX x).rep ac (fresh w ac) [.string x.name,.int .i64 x.ints,.int .i64 x.aw,.int .i64 x.locals,.slice A n c]/\Ext w ac
namespace Ck
theorem fW(h:p:=by
 clear a3 am aJ;generalize hX:World.setCell _ _ _=X;have b1:=dj hX;have bg:=bY.2.2.2.2.2.1.on b1 ab;have m:an X g 194 #[.slice GA gn gc,.slice MA mn mc,.slice FA fn fc,.slice A2 (ln+k+1) c2,.int .i64 0,.int .i64 0,.int .i64 0,.int .i64 0,.slice none 0 0,.slice none 0 0]:=hX▸bY.2.2.2.2.1.aD 3 _;have aR:=ah b1 m;clear c0 cK cI hX b1 m;obtain⟨c0,cK,cI⟩:=bg.two;have c9:=ad bg;clear bg;have bB:=mY (f.params.take k);have cv:=iE (f.params.take k);have dG:(f.params.take k).length<=2:=by rw[List.length_take];omega
 have dZ:wrap64 (bK (f.params.take k)+1)=bK (f.params.take k)+1:=IntWalk.wrap64_in _ ab;go_upto_region 5 with(fail);generalize bP:World.setCell _ _ _=cA
 try rw[dZ] at bP
 have T:=dj bP;obtain⟨al,cF,a7,cn,_,_,cl⟩:=bY.o;obtain⟨b1,m⟩:=aR.o;have a4:=(aQ.o:W.heap.size<=g)
 have r1:Gr (λ_=>False) W.heap.size 147 3 cA A2 (ln+(k+1)) c2 ((bc p++dM (f.params.take (k+1)) 0 0).map bS):=by
  exact Gl
 have f0:Ext w cA:=Fr.low (M:=λb=>w.heap.size<=b) ((cF.mono λ_ h=>h.elim).trans ((b1.mono λb O=>ab).trans (T.mono λb O=>ab))) λ_ h=>h;have gL:=(a7.on b1 ab).on T ab;have dq:=(cn.on b1 ab).on T ab;have rg:=m.on T ab;have ro:an cA o 114 #[.string f.name,.int .i64 (b2 (f.params.take (k+1))),.int .i64 (bK (f.params.take (k+1))),.int .i64 0,.slice none 0 0]:=by
  rw[a1 bU.o,(ly _ _).1,(ly _ _).2,bs,<-bP];simpa using c9.aD 2 _
 exact Gy
 ):p:=h
theorem gA(h:p:=by
 refine tf ?_;refine cB ?_;generalize b7:World.setCell _ _ _=Y;obtain⟨_,s,_⟩:=p5 bV bm a4 b7;have bz:=ad (a8.trans s);have ak:=av.aj s;have d9:=ad ak;have dt:=ad (bl.aj s);have cX:=bx.aj s;have cR:=bI.aj s;have cU:=ad (bF.aj s);replace h0:=(s.cell N (λh=>h)).trans h0
 replace cp:=(s.cell N (λh=>h)).trans cp
 have cw:=s.size;replace N:pb<Y.heap.size:=Lc N cw
 clear b7 c0 cK cI bV bm a4 s a0 ap aj a3 am aJ bx bI;obtain⟨bx,bI⟩:=aM cX cR;obtain⟨a0,ap,aj⟩:=ak.two;obtain⟨a3,am,aJ⟩:=cX.two;obtain⟨c0,cK,cI⟩:=cR.two;clear ak cX cR;have c5:¬Y.heap.size<=g:=ab;have ep:¬Y.heap.size<=o:=ab;have ek:¬Y.heap.size<=w.heap.size+1:=ab;have eq:¬Y.heap.size<=pb:=ab
 cases bs:q.2 with
 | true=>
  rw[bs] at cp;go_wp2;refine eU (λb=>Y.heap.size<=b) [(0,3),(1,3),(2,3),(3,3),(4,0),(5,3),(6,0),(7,3),(8,3),(9,3),(10,0),(11,3),(12,0),(13,3),(14,1),(15,2),(16,3),(17,3),(18,2)] ?_
  iterate 4 refine pf ?_
  refine qF ?_;refine pf ?_;refine qF ?_
  iterate 3 refine pf ?_
  refine qF ?_;refine pf ?_;refine qF ?_;refine pf ?_;refine r9 ?_;generalize hV:World.drew (World.alloc _ _)=db;have e1:=gX hV;have cL:an db Y.heap.size 147 #[.string q.1,.int .i64 5,.int .i64 (bK (f.params.take k))]:=hV▸(LM).drew;clear hV;refine aq rfl (λK hK=>?_);rw[if_pos (by rfl)];refine eX ji (.tmp 57) (.tmp 67) (by rfl) (cU.aj e1) cL (jW ⟨q.1,5,bK (f.params.take k)⟩) (by rfl) (by rfl) (by rfl) ab ab (aC e1.size) ?_;intro A2 c2 cz al ay cf bR;have cF:Ext w cz:=Fr.low (M:=λb=>w.heap.size<=b) (((bz.trans e1).mono λ_ h=>h.elim).trans (ay.mono λb O=>by have:=(cU.lt O).1;omega)) λ_ h=>h;have ax:∀b,(Value.slice A (ln+k) c).ownBlock=some b->W.heap.size<=b/\b≠g/\b≠o:=λb O=>⟨(cU.lt O).1,λe=>by subst e;exact bw.1 O,λe=>by subst e;exact bw.2 O⟩
  have a7:=(d9.aj e1).on ay λO=>by have:=(ax _ O).1;omega
  have cn:=(dt.aj e1).on ay λO=>by have:=(ax _ O).1;omega
  have kg:=(bx.aj e1).on ay λO=>(ax _ O).2.1 rfl;have d3:=(bI.aj e1).on ay λO=>(ax _ O).2.2 rfl;have cl:(Value.slice A2 (ln+k+1) c2).ownBlock≠some g/\(Value.slice A2 (ln+k+1) c2).ownBlock≠some o:=by
   exact GD
  have bY:=gY al cF a7 cn kg d3 cl;clear al ay cf cF ax a7 cn cl a0 ap aj a3 am aJ c0 cK cI e1 cL h0 cp N c5 ep ek eq;obtain⟨a3,am,aJ⟩:=kg.two;obtain⟨c0,cK,cI⟩:=d3.two;clear kg d3;refine eL hK ?_;clear hK K
  iterate 2 refine pf ?_
  exact fV
 | false=>
  rw[bs] at cp;go_wp2;refine eU (λb=>Y.heap.size<=b) [(0,3),(1,3),(2,3),(3,3),(4,0),(5,3),(6,0),(7,3),(8,3),(9,3),(10,0),(11,3),(12,0),(13,3),(14,1),(15,2),(16,3),(17,3),(18,2)] ?_
  iterate 4 refine pf ?_
  refine qF ?_;refine pf ?_;refine qF ?_
  iterate 3 refine pf ?_
  refine qF ?_;refine pf ?_;refine qF ?_;refine pf ?_;refine r9 ?_;generalize hV:World.drew (World.alloc _ _)=db;have e1:=gX hV;have cL:an db Y.heap.size 147 #[.string q.1,.int .i64 4,.int .i64 (b2 (f.params.take k))]:=hV▸(LM).drew;clear hV;refine aq rfl (λK hK=>?_);rw[if_pos (by rfl)];refine eX ji (.tmp 79) (.tmp 89) (by rfl) (cU.aj e1) cL (jW ⟨q.1,4,b2 (f.params.take k)⟩) (by rfl) (by rfl) (by rfl) ab ab (aC e1.size) ?_;intro A2 c2 cz al ay cf bR;have cF:Ext w cz:=Fr.low (M:=λb=>w.heap.size<=b) (((bz.trans e1).mono λ_ h=>h.elim).trans (ay.mono λb O=>by have:=(cU.lt O).1;omega)) λ_ h=>h;have ax:∀b,(Value.slice A (ln+k) c).ownBlock=some b->W.heap.size<=b/\b≠g/\b≠o:=λb O=>⟨(cU.lt O).1,λe=>by subst e;exact bw.1 O,λe=>by subst e;exact bw.2 O⟩
  have a7:=(d9.aj e1).on ay λO=>by have:=(ax _ O).1;omega
  have cn:=(dt.aj e1).on ay λO=>by have:=(ax _ O).1;omega
  have kg:=(bx.aj e1).on ay λO=>(ax _ O).2.1 rfl;have d3:=(bI.aj e1).on ay λO=>(ax _ O).2.2 rfl;have cl:(Value.slice A2 (ln+k+1) c2).ownBlock≠some g/\(Value.slice A2 (ln+k+1) c2).ownBlock≠some o:=by
   exact GD
  have bY:=gY al cF a7 cn kg d3 cl;clear al ay cf cF ax a7 cn cl a0 ap aj a3 am aJ c0 cK cI e1 cL h0 cp N c5 ep ek eq;obtain⟨a3,am,aJ⟩:=kg.two;obtain⟨c0,cK,cI⟩:=d3.two;clear kg d3;refine eL hK ?_;clear hK K
  iterate 2 refine pf ?_
  refine aq rfl (λK hK=>?_);go_simp;refine eL hK ?_;clear hK K;refine aB ?_;clear a3 am aJ;generalize hX:World.setCell _ _ _=X;have b1:=dj hX;have bg:=bY.2.2.2.2.2.1.on b1 ab;have m:an X g 194 #[.slice GA gn gc,.slice MA mn mc,.slice FA fn fc,.slice A2 (ln+k+1) c2,.int .i64 0,.int .i64 0,.int .i64 0,.int .i64 0,.slice none 0 0,.slice none 0 0]:=hX▸bY.2.2.2.2.1.aD 3 _;have aR:=ah b1 m;clear c0 cK cI hX b1 m;obtain⟨c0,cK,cI⟩:=bg.two;have c9:=ad bg;clear bg;have bB:=mY (f.params.take k);have cv:=iE (f.params.take k);have dG:(f.params.take k).length<=2:=by rw[List.length_take];omega
  have dZ:wrap64 (b2 (f.params.take k)+1)=b2 (f.params.take k)+1:=IntWalk.wrap64_in _ ab;go_upto_region 5 with(fail);generalize bP:World.setCell _ _ _=cA
  try rw[dZ] at bP
  have T:=dj bP;obtain⟨al,cF,a7,cn,_,_,cl⟩:=bY.o;obtain⟨b1,m⟩:=aR.o;have a4:=(aQ.o:W.heap.size<=g)
  have r1:Gr (λ_=>False) W.heap.size 147 3 cA A2 (ln+(k+1)) c2 ((bc p++dM (f.params.take (k+1)) 0 0).map bS):=by
   exact Gl
  have f0:Ext w cA:=Fr.low (M:=λb=>w.heap.size<=b) ((cF.mono λ_ h=>h.elim).trans ((b1.mono λb O=>ab).trans (T.mono λb O=>ab))) λ_ h=>h;have gL:=(a7.on b1 ab).on T ab;have dq:=(cn.on b1 ab).on T ab;have rg:=m.on T ab;have ro:an cA o 114 #[.string f.name,.int .i64 (b2 (f.params.take (k+1))),.int .i64 (bK (f.params.take (k+1))),.int .i64 0,.slice none 0 0]:=by
   rw[a1 bU.o,(ly _ _).1,(ly _ _).2,bs,<-bP];simpa using c9.aD 1 _
  exact Gy
 ):p:=h
theorem vP(h:p:=by
 refine(dS A (ln+k) c _ q.1 V.drew (bZ.on (Fr.ext bm.drew)) ab).mono ?_;rintro e aP ⟨rfl,ar⟩;rw[a2];simp only[iU];refine eL hK ?_;clear hK K
 iterate 3 refine tf ?_
 have ca:=aN.aj (Fr.aQ ar);have aF:=bm.trans (Fr.aQ ar);clear aN bm ar;exact key wr.heap.size aP ⟨aF,ca,Lb _⟩
 ):p:=h
theorem sI(h:p:=by
 have eo:((bc p).map bS).length=ln:=hl.1;have dn:ln<=100:=by rw[<-hl.1,Lf,k8];omega
 have bf:f.params.length=pn:=by rw[<-cq.1,Lf]
 have gI:pn<=2:=by have:=(hp.funcs f J).iT;omega
 obtain⟨cb,bL,dL,b0,bN,gH,ds⟩:=CP hp J hm a5 hl cq bE;have aG:=ah eo bf;clear h aK hm a5 hl cq bE hp J dr lm lf eo bf;go_enter func71,ntmps71;go_upto_region 1 with(fail);generalize be:World.alloc _ _=W;have aE:=nt be;have bW:=lL be;have aY:=jv be;have a6:=lM be;have cE:=aE.size;obtain⟨a8,av,bl⟩:=eG aE aY a6;have y:=kK ((bN.on (Fr.ext aE)).on (Fr.ext (Fr.refl _ W).drew));obtain⟨a0,ap,aj⟩:=bW.two;have ey:¬W.heap.size<=w.heap.size:=by have:=a6.lt;omega
 have cW:w.heap.size+2<W.heap.size:=a6.lt;clear be aE bW aY a6;refine eU (λb=>W.heap.size<=b) [(0,0),(2,3),(1,1),(3,1),(4,3),(5,2),(6,3)] ?_;refine qF ?_;refine pf ?_;refine r9 ?_;generalize hV:World.drew (World.alloc _ _)=c3;have e1:=gX hV;have ch:Gr (λ_=>False) W.heap.size 147 3 c3 (some ⟨W.heap.size,0,none⟩) 0 0 []:=hV▸(Gr.lit (w:=W) (n:=0) (l:=[]) rfl (by rfl) ab (by simp only[D.aJ])).aj LL.drew;have dU:=kK (bN.on (Fr.ext (a8.trans e1)));clear hV y;refine aO rfl (λK hK=>?_);rw[if_pos (by rfl)];refine jr ji (.tmp 16) (.tmp 17) (by rfl) ch (lg (bc p)) aG.1 dU (λh=>by subst h;exact Sl.none_ bN.o) (by rfl) (by rfl) ab ab e1.size ?_;intro bC cd aV b9 f1 o1 c1;refine ei hK (f1.mono λb O=>ab) ?_;clear hK K;have e2:Ext W aV:=Fr.low (M:=λb=>W.heap.size<=b) ((e1.mono λ_ h=>h.elim).trans (f1.mono λb O=>ab)) λ_ h=>h;have dp:=λb O=>(b9.lt (g:=b) O)
 have eD:W.heap.size<=aV.heap.size:=e2.size;refine pf ?_;refine aq rfl (λK hK=>?_);go_simp;generalize hV:World.alloc _ _=eC;have e3:=bb hV;have cX:=aT hV;refine eL hK ?_;clear hK K;refine pf ?_;refine aB ?_;have bX:=ad (a8.trans (e2.trans e3));have bk:=ad (b9.aj e3);have da:=av.aj (e2.trans e3);have dC:=ad da;have bM:=ad (bl.aj (e2.trans e3));have bx:=ad cX;have bJ:w.heap.size+3<=aV.heap.size:=by have:=e2.size;have:=bl.lt;omega
 have a9:∀b,(Value.slice bC ln cd).ownBlock=some b->W.heap.size<=b/\b<aV.heap.size:=λb O=>dp b O;have aI:=ad a9;clear hV e1 ch dU b9 f1 o1 c1 e2 e3 cX dp ey a0 ap aj a8 av bl a9;obtain⟨a0,ap,aj⟩:=da.two;clear da;generalize ez:aV.heap.size=g at *;go_upto_region 3 with(fail);generalize hV:World.alloc _ _=V;have L:=bb hV;have cR:=aT hV;have c4:g<eC.heap.size:=bx.lt;generalize dY:eC.heap.size=o at *;have ag:=ad (show Gr (λ_=>False) W.heap.size 147 3 V bC ln cd ((bc p).map bS)/\(Value.slice bC ln cd).ownBlock≠some g/\(Value.slice bC ln cd).ownBlock≠some o/\Ext w V/\an V (w.heap.size+1) 137 #[.string f.name,.slice PA pn pc,.slice bT bn fk]/\
   an V (w.heap.size+2) 114 #[.string ⟨#[]⟩,.int .i64 0,.int .i64 0,.int .i64 0,.slice none 0 0]/\an V g 194 #[.slice GA gn gc,.slice MA mn mc,.slice FA fn fc,.slice bC ln cd,.int .i64 0,.int .i64 0,.int .i64 0,.int .i64 0,.slice none 0 0,.slice none 0 0]/\an V o 114 #[.string f.name,.int .i64 0,.int .i64 0,.int .i64 0,.slice none 0 0] from
  ⟨bk.aj L,λO=>by have:=aI.o _ O;omega,λO=>by have:=aI.o _ O;omega,bX.trans L,dC.aj L,bM.aj L,bx.aj L,cR⟩)
 have el:W.heap.size<=g:=ab;clear hV L cR bk bX dC bM bx a0 ap aj aI ez dY;have aQ:=ad el;obtain⟨b6,bv,cC,cV,f2,bQ,er,e8⟩:=ag.o;have dJ:=ad (show Gr (λ_=>False) W.heap.size 147 3 V bC (ln+0) cd ((bc p++dM (f.params.take 0) 0 0).map bS)/\(Value.slice bC (ln+0) cd).ownBlock≠some g/\(Value.slice bC (ln+0) cd).ownBlock≠some o/\Ext w V/\an V (w.heap.size+1) 137 #[.string f.name,.slice PA pn pc,.slice bT bn fk]/\an V (w.heap.size+2) 114 #[.string ⟨#[]⟩,.int .i64 0,.int .i64 0,.int .i64 0,.slice none 0 0]/\an V g 194 #[.slice GA gn gc,.slice MA mn mc,.slice FA fn fc,.slice bC (ln+0) cd,.int .i64 0,.int .i64 0,.int .i64 0,.int .i64 0,.slice none 0 0,.slice none 0 0]/\an V o 114 #[.string f.name,.int .i64 (b2 (f.params.take 0)),.int .i64 (bK (f.params.take 0)),.int .i64 0,.slice none 0 0] from ⟨by simpa[dM] using b6,bv,cC,cV,f2,bQ,er,by simpa[b2,bK] using e8⟩);clear b6 bv cC cV f2 bQ er e8;go_wp2
 go_loopw [12] (λce wr=>∃(k:Nat) (A:LP) (c:Nat),k<=pn/\ce=.int .i64 k/\Gr (λ_=>False) W.heap.size 147 3 wr A (ln+k) c ((bc p++dM (f.params.take k) 0 0).map bS)/\(Value.slice A (ln+k) c).ownBlock≠some g/\(Value.slice A (ln+k) c).ownBlock≠some o/\Ext w wr/\an wr (w.heap.size+1) 137 #[.string f.name,.slice PA pn pc,.slice bT bn fk]/\an wr (w.heap.size+2) 114 #[.string ⟨#[]⟩,.int .i64 0,.int .i64 0,.int .i64 0,.slice none 0 0]/\an wr g 194 #[.slice GA gn gc,.slice MA mn mc,.slice FA fn fc,.slice A (ln+k) c,.int .i64 0,.int .i64 0,.int .i64 0,.int .i64 0,.slice none 0 0,.slice none 0 0]/\an wr o 114 #[.string f.name,.int .i64 (b2 (f.params.take k)),.int .i64 (bK (f.params.take k)),.int .i64 0,.slice none 0 0]) (λce _=>pn - (intOf ce).toNat)
 case atStart=>exact⟨0,bC,cd,ab,rfl,dJ.o⟩
 case round=>
  obtain⟨k,A,c,ai,rfl,hG,dh,di,aE,aY,a6,cX,cR⟩:=hrel;clear ag dJ;have bF:=ad hG;have bw:=ah dh di;obtain⟨a8,av,bl,bx,bI⟩:=CO aE aY a6 cX cR;obtain⟨a0,ap,aj⟩:=aY.two;obtain⟨a3,am,aJ⟩:=cX.two;have I:=aE.size;by_cases aw:k<pn
  .obtain⟨pb,gN,q,cs,rfl,eM,br,b3,bi,Z⟩:=(gH.on (Fr.ext aE)).gZ rP aw;obtain rfl:=oc.1 b3;have h0:=Z 0 _ rfl;have cp:=Z 1 _ rfl;simp only[Ll] at h0;have N:pb<wr.heap.size:=eM;have bU:=ad br;have a2:dv (bc p++dM (f.params.take k) 0 0) q.1=none:=by
    refine jX λj x bd hx=>?_;have aS:=(cb.funcs f bL.o).fresh;have ck:x.name∈(bc p++dM (f.params.take k) 0 0).map (·.name):=Lz.2 ⟨x,Le bd,rfl⟩;rw[Li,fM,fJ] at ck;have dB:f.params=f.params.take k++q::f.params.drop (k+1):=by
     have:=List.take_append_drop k f.params;rw[<-this];congr 1
     .rw[this]
     .rw[this,List.drop_eq_getElem?_toList_append,br];rfl
    rw[dB,Li,Lh,<-List.append_assoc,List.nodup_append] at aS;exact aS.2.2 _ ck q.1 (by simp) hx
   have y:=bF.sl (Q:=au wr) (λb _ h=>h.elim) (λb h _=>h);have bZ:=ad y;clear b3 bi Z eM br hG dh di aE aY a6 cX cR y;go_upto_region 6 with(fail);refine uP (λ_=>False) [10,15] (.free 0 (.free 1 (.free 2 (.held 3 (.free 4 (.held 5 (.free 6 (.free 7 (.free 8 (.held 9 (.pick [10,14] (λi=>bif i == 10 then .free 11 (.free 12 (.free 13 (.pick [14] (λ_=>.pick [15] (λ_=>.free 16 (.stop)))))) else .pick [10] (λ_=>.free 11 (.free 12 (.free 13 (.pick [15] (λ_=>.free 16 (.stop)))))))))))))))))) ?_
   iterate 3 refine tf ?_
   refine th ?_;refine tf ?_;refine th ?_
   iterate 3 refine tf ?_
   refine th ?_;refine lE (P:=?JV) (ops:=?J4) (Q:=?J5) (R:=?J6) (tails:=?J7) (rest:=.pick [15] (λ_=>.free 16 (.stop))) (aa:=?JW) (C:=λdf V=>Ext wr V/\an V df 147 #[.string ⟨#[]⟩,.int .i64 0,.int .i64 0]/\wr.heap.size<=df) (λkey=>?IT) ?IQ
   case IT=>
    refine bt ?_ ?_
    ·
     refine cj rfl (λK hK=>?_) rfl;go_simp;refine(dS A (ln+k) c _ q.1 wr.drew (bZ.on (Fr.ext LL.drew)) ab).mono ?_;rintro e aP ⟨rfl,ar⟩;rw[a2];simp only[iU];refine eL hK ?_;clear hK K
     iterate 3 refine tf ?_
     refine ao ?_;refine fj ?_;generalize hV:World.alloc _ _=V;have aN:=aT hV;have bm:Ext wr V:=hV▸(Fr.aQ ar).alloc _;exact CU
    ·
     exact vO
   case IQ=>
    rintro df V ⟨bm,bV,a4⟩;obtain⟨c0,cK,cI⟩:=bV.two;exact hk
  .obtain rfl:pn=k:=ab;rw[Lj (by rw[aG.2];exact Lb _)] at hG cR;have cD:=bI.o;rw[Lj (by rw[aG.2];exact Lb _)] at cD;clear bF bI cR;obtain⟨bF,bI⟩:=aM hG cD;obtain⟨c0,cK,cI⟩:=cD.two;clear hG dh di aE aY a6 cX cD;go_upto_region 15 with(fail);generalize hX:World.setCell _ _ _=X;have b1:=dj hX;have m:an X g 194 #[.slice GA gn gc,.slice MA mn mc,.slice FA fn fc,.slice A (ln+pn) c,.int .i64 (b2 f.params),.int .i64 0,.int .i64 0,.int .i64 0,.slice none 0 0,.slice none 0 0]:=hX▸bx.aD 4 _;have dQ:w.heap.size<=g:=by have:=(aQ.o:W.heap.size<=g);omega
   have bq:Ext w X:=Fr.low (M:=λb=>w.heap.size<=b) ((a8.mono λ_ h=>h.elim).trans (b1.mono λb O=>ab)) λ_ h=>h;have cH:=bF.c7 (ac:=X) b1.size λb aw hp=>b1.block b aw λhe=>by
    subst he;rcases hp with hp|hp
    .exact hp.elim
    .exact bw.1 hp
   have aX:∀b,au w b->off (Ms g (.slice none 0 0) (.slice none 0 0)) X b:=λb O=>⟨Lc O bq.size,λhm=>by
    rcases hm with hm|hm|hm
    .have:b<w.heap.size:=O;omega
    .cases hm
    .cases hm⟩
   have dI:=(dL.ai (ac:=X) λb O=>bq.block b O λh=>h).mono aX;have bO:=(b0.ai (ac:=X) λb O=>bq.block b O λh=>h).mono aX;have dR:=(ds.ai (ac:=X) λb O=>bq.block b O λh=>h).mono aX;have dV:Sl X (off (Ms g (.slice none 0 0) (.slice none 0 0)) X) A (ln+pn) ((bc p++dM f.params 0 0).map bS):=by
    obtain⟨dX,xs,ae,aD⟩:=cH;exact Sl.qz ae (uc aD) dX λb bp _ aw=>⟨aw,λhm=>by
     rcases hm with hm|hm|hm
     .subst hm;exact bw.1 (by rw[bp];rfl)
     .cases hm
     .cases hm⟩
   have ee:cJ X g (o+1) p.ae p.funcs (bc p++dM f.params 0 0) A (ln+pn) c (b2 f.params) 0 [] [] none 0 none 0:=
    ⟨⟨GA,gn,gc,MA,mn,mc,FA,fn,fc,m,ab,ab,dI,bO⟩,⟨ab,by have:=b1.size;have:=cI;omega⟩,⟨ab,dV⟩,lG.nil _ _ _ _ _ _⟩
   have dc:=av.on b1 (by have:=(aQ.o:W.heap.size<=g);omega);obtain⟨et,d8,aW,eA⟩:=iR ee dR bq dc;have d7:=ad (bl.on b1 (by have:=(aQ.o:W.heap.size<=g);omega));have ec:=ad (bI.on b1 ab);clear a0 ap aj a3 am aJ c0 cK cI hX b1 m bq cH aX dI bO dR dV ee;obtain⟨a0,ap,aj⟩:=dc.two;clear dc;have eS:=mY f.params;have eT:=iE f.params;have ci:=ad (show ∀b,Ms g (.slice none 0 0) (.slice none 0 0) b->w.heap.size<=b from λb hm=>by
    rcases hm with hm|hm|hm
    .omega
    .cases hm
    .cases hm)
   have dg:Sc (bj (gE p)) (fo p f) (bc p++dM f.params 0 0) (fF p++cy f.params) (ba p++f.params.map (·.1)) (b2 f.params) (bK f.params):=uT cb.o bL.o;have es:(bj (gE p)).ae=p.ae:=by rw[oB]
   have ej:f.body.num<=64:=Ls (jo (λf:aA=>f.body.num) bL.o) cb.iT;have de:=dN f.body 4 _ _ _ (b2 f.params) [] (cb.funcs f bL.o).body dg;have cu:(bc p++dM f.params 0 0).length<=200:=by
    have ae:=aG.1;rw[Lf] at ae;have aD:=congrArg List.length (fJ f.params 0 0);rw[Lf,Lf] at aD;have aU:=aG.2;rw[Ld,ae,aD];omega
   obtain⟨aL,dH,ed,dW⟩:=iR dg de es cu;clear dg de es cu;go_wp2_with(fail);have bf:=aG.2;have cu:=dW.o;refine(dy (bj (gE p)) (bK f.params) p.funcs f.body (fo p f) 4 _ _ _ (b2 f.params) 0 [] [] g (o+1) A (ln+pn) c none 0 none 0 bT bn fk X (cb.funcs f bL.o).body aL.o (Dq cb.o bL.o) (λh aH=>by have:=(cb.funcs h aH).iT;omega) (by rw[ed.o];exact et.o) d8.o (by simp;omega) rfl ab ab ab).mono ?_;rintro e b5 ⟨rfl,cM,cG,cO,cQ,af,bv,bu,cc⟩;have de:=dH.o;rw[ed.o] at bu;clear bf cu dH;generalize br:dD f.body (bc p++dM f.params 0 0) (b2 f.params) []=r at *;obtain⟨r1,gG⟩:=r;obtain⟨⟨gJ,cZ,eb,_⟩,bh,c8⟩:=de;simp only[LD,Lt] at bv bu cc cZ bh c8;have cN:r1.length<=128:=by rw[cZ];omega
   have dl:∀b,b≠g->¬Ms g (.slice none 0 0) (.slice none 0 0) b:=λb O hm=>by
    rcases hm with hm|hm|hm
    .exact O hm
    .cases hm
    .cases hm
   obtain⟨dm,d0⟩:=d7.cM (dl _ (by have:=(aQ.o:W.heap.size<=g);omega)) cc;obtain⟨c7,d1⟩:=ec.cM (dl _ ab) cc;obtain⟨bA,eI⟩:=aM bu cc;obtain⟨e6,eR,eP,e9,eZ,eW,e4,eN,eJ,gm,_⟩:=bu.blk;have co:=bG dm d0 c7 d1;have bU:=bG br bv bh c8;clear a0 ap aj bu cc dm c7 cZ eb d0 d1 br bv;obtain⟨a3,am,aJ⟩:=gm.two;clear gm;clear bh c8 dl;go_wp2_with(fail);refine(gU bA.o nD (f.body.num:Int) (jA (is:=[]) (ps:=[]) (Sl.bN _) (Sl.bN _) (Lb _) (Lb _)) ab (aC bU.2.1)).mono ?_;rintro e cx ⟨rfl,dz,dk,dF,dO,cT,c6⟩;have dP:=ad cT;have cS:Mv g (.slice cM r1.length cG) (.slice cO af.length cQ) b5 (.slice dz (r1++[nD]).length dk) (.slice dF (af++[(f.body.num:Int)]).length dO) cx:=by rw[Ld,Ld];exact c6
   have eh:=ad (eI.trans cS);obtain⟨dm,d0⟩:=co.1.cM co.2.1 cS;obtain⟨c7,d1⟩:=co.2.2.1.cM co.2.2.2 cS;obtain⟨ev,ew⟩:=aM dm c7;obtain⟨e5,eQ,eO,e7,eY,eV,e0,eK,eH,cg,_⟩:=cT.blk;have ea:=ad cg;clear cT c6 cS a3 am aJ;obtain⟨a3,am,aJ⟩:=cg.two;obtain⟨c0,cK,cI⟩:=c7.two;have em:¬g=o:=ab;clear cg c7 dm;go_wp2;refine eU (λb=>b=o) [(0,3),(1,3),(2,3),(3,0),(4,3),(5,3),(6,3),(7,0),(8,3),(9,1),(10,3),(11,2)] ?_
   iterate 3 refine pf ?_
   refine qF ?_
   iterate 3 refine pf ?_
   refine qF ?_;refine pf ?_;refine aO rfl (λK hK=>?_);go_simp;refine ei hK (Ds cx o 3 _) ?_;clear hK K;refine pf ?_;refine aq rfl (λK hK=>?_);go_simp;refine eL hK ?_;clear hK K;refine aB ?_;generalize hX:World.setCell _ _ _=gz;have z:=EU hX;have dd:an gz o 114 #[.string f.name,.int .i64 (b2 f.params),.int .i64 (bK f.params),.int .i64 gG,.slice dz (r1.length+1) dk]:=hX▸(ew.aD 3 _).aD 4 _;have dT:=ea.on z em;have dK:=ev.on z (by have:=(aQ.o:W.heap.size<=g);omega);obtain⟨du,eB,dE⟩:=eG z dd dK;clear hX z a3 am aJ c0 cK cI dK;obtain⟨a3,am,aJ⟩:=dT.two;obtain⟨c0,cK,cI⟩:=dd.two;have d2:¬g=w.heap.size+2:=by have:=(aQ.o:W.heap.size<=g);omega
   have d4:¬o=w.heap.size+2:=by have:=(aQ.o:W.heap.size<=g);omega
   clear dT dd;obtain⟨d6,dw,dx⟩:=dE.two;go_wp2;refine eU (λb=>b=w.heap.size+2) [(0,0),(1,3),(2,3),(3,3),(4,0),(5,3),(6,3),(7,3),(8,0),(9,3),(10,3),(11,3),(12,0),(13,1),(14,3),(15,3),(16,3)] ?_;refine Fs ?_
   iterate 3 refine pf ?_
   refine Fs ?_
   iterate 3 refine pf ?_
   refine Fs ?_
   iterate 3 refine pf ?_
   refine Fs ?_;refine aO rfl (λK hK=>?_);go_simp;generalize hX:World.setCell _ _ _=d5;obtain⟨cg,_,cr⟩:=cm (w:=w) [.string f.name,.int .i64 (b2 f.params),.int .i64 (bK f.params),.int .i64 gG,.slice dz (r1.length+1) dk] (by rfl) dE.o (Fr.low (M:=λb=>w.heap.size<=b) ((aW.mono λ_ h=>h.elim).trans ((eh.fr.mono λb hm=>ci.o b hm).trans (du.mono λb O=>by have:=(aQ.o:W.heap.size<=g);omega))) λ_ h=>h) (Nat.le_add_right _ _) hX;refine ei hK (uh (uh cr)) ?_;clear hK K
   iterate 3 refine pf ?_
   refine aB ?_;obtain⟨bH,eE,eF⟩:=cg.two;have eu:=ah cr cg;clear a3 am aJ c0 cK cI d6 dw dx hX cr cg;go_wp2;refine LK (v:=.tuple #[.agg #[.string f.name,.int .i64 (b2 f.params),.int .i64 (bK f.params),.int .i64 gG,.slice dz (r1.length+1) dk],.slice dF (af.length+1) dO,.int .i64 0,.int .i64 0]) (by simp[results,Tryz.results71,go_sem,bH]) rfl ?_;obtain⟨cr,cg⟩:=eu.o;have a4:=(aQ.o:W.heap.size<=g)
   have en:eg p f=⟨f.name,b2 f.params,bK f.params,gG,r1++[nD]⟩:=by
    unfold eg;simp only[bU.1]
   have b4:Ext w d5:=Fr.low (M:=λb=>w.heap.size<=b) ((aW.mono λ_ h=>h.elim).trans ((eh.fr.mono λb hm=>ci.o b hm).trans ((du.mono λb O=>ab).trans (cr.mono λb O=>ab)))) λ_ h=>h;have b8:=dP.rows.one;have bo:=b8.cap.1;have ex:Gr _ _ _ _ d5.drew.drew _ _ _ _:=(((b8.c7 (ac:=gz) du.size λb aw hp=>du.block b aw λhe=>by
    rcases hp with hp|hp
    .have:=hp.1;omega
    .have:=(b8.lt hp).1;omega).c7 (ac:=d5) cr.size λb aw hp=>cr.block b aw λhe=>by
    rcases hp with hp|hp
    .have:=hp.1;omega
    .have:=(b8.lt hp).1;omega).aj (Fr.refl _ d5).drew).aj (Fr.refl _ d5.drew).drew
   have ef:=ex.sl (Q:=fresh w d5.drew.drew) (λb ae aD=>⟨by have:=aD.1;omega,ae⟩) (λb ae aD=>⟨ab,ae⟩);rw[Ld] at ef bo;refine⟨dz,r1.length+1,dk,dF,af.length+1,dO,by rw[en],?_,b4.drew.drew⟩;rw[en];exact yG.2 ⟨dz,r1.length+1,dk,rfl,bo,ef⟩
 ):p:=h
end Ck
open Ck in
theorem sX(dy:∀U nk F b,lX U nk F b)(p:bD)(hp:oK p)(f:aA)(J:f∈p.funcs)(GA:LP)(gn gc:Nat)(MA:LP)(mn mc:Nat)(FA:LP)(fn fc:Nat)(S:LP)(ln lc:Nat)(PA:LP)(pn pc:Nat)(bT:LP)(bn fk:Nat)(w:World)
  (h:hh w (au w) p GA gn MA mn FA fn) (hl:Sl w (au w) S ln ((bc p).map bS)) (cq:Sl w (au w) PA pn (f.params.map ct)) (bE:Sl w (au w) bT bn (cY f.body)) :
  Calls prog 71 #[.agg #[.slice GA gn gc,.slice MA mn mc,.slice FA fn fc],.slice S ln lc,.agg #[.string f.name,.slice PA pn pc,.slice bT bn fk]] w (Ih w (eg p f)):=by
 have aK:=h.g;have hm:=h.m;have a5:=h.f;have dr:p.globals.length=gn:=by rw[<-aK.1,Lf]
 have lm:p.ae.length=mn:=by rw[<-hm.1,Lf]
 have lf:p.funcs.length=fn:=by rw[<-a5.1,Lf]
 exact sH
end Go.Proofs.YtflecliffjbleaaGreat
