/- Part 46 of the proof. No condition of its own. -/
import Derived.Test.YtnigabjngpnbiaaGreatQ39
namespace Go.Proofs.YtnigabjngpnbiaaGreat
open Go.RowKit Go.Proofs.Tryz
set_option maxRecDepth 1000000
set_option maxHeartbeats 25600000
set_option linter.unusedVariables false
variable{T:List Tok}{f i k:Nat}{P:Nat->Prop}{p:Prop}{w:World}
def H0(T:List Tok)(k:Nat):Option VE:=match T[k]? with
 | some t=>if t.kind=2 then some (.num t.num) else if t.kind=1 then some (.eP (strOf t.text)) else none
 | none=>none
def E5(g:Nat)(A:Kj)(n c:Nat)(T:List Tok)(deep:Nat)(w:World)(x:VE)(k:Nat)(e:Ending)(J:World):Prop:=
 ∃op m s B bn bc,e=.returned (.agg #[.int .i64 op,.int .i64 m,.string s,.slice B bn bc])/\(bB x).rep J (fresh w J) [.int .i64 op,.int .i64 m,.string s,.slice B bn bc]/\aH J g A n c T k deep/\Fr (λb=>b=g) w J
theorem CQ(n:Int):(bB (.num n)).rep w P [.int .i64 1,.int .i64 n,.string ⟨#[]⟩,.slice none 0 0]:=bj.2 ⟨none,0,0,rfl,JI _,Sl.c7 _⟩
theorem CP(s:ByteArray):(bB (.eP s)).rep w P [.int .i64 2,.int .i64 0,.string s,.slice none 0 0]:=bj.2 ⟨none,0,0,rfl,JI _,Sl.c7 _⟩
namespace AT
theorem eI(h:p:=by
 generalize hX:World.setCell _ _ _=X;obtain⟨a6,bf,y⟩:=bk (w:=w) [.int .i64 1,.int .i64 u.num,.string ⟨#[]⟩,.slice none 0 0] (by rfl) H1.2.2.1 H1.2.2.2 ad hX;have bL:=y.size;have bT:=H1.1.on y λb O=>ad;have aJ:=dT bT (H1.2.1.on y ad) a6 bf y;clear hX a6 bf y bl U aE a0 al af c2;obtain⟨a0,al,af⟩:=bT.blk.two;clear bT;go_upto_region 24 with(fail);generalize cm:World.setCell _ _ _=Y;have aA:=da cm;have S:aH Y g (some ⟨b,o,none⟩) n c T (k+1) deep:=by
  rw[<-cm];have aA:Fr (λb=>b=g) X (X.setCell ⟨g,1,none⟩ (.int .i64 ((k:Int)+1))):=(Fr.refl (λb=>b=g) X).setCell (.inl rfl) _;exact⟨aJ.1.blk.bH 1 (.int .i64 ((k:Int)+1)),aJ.1.kH.ep (aA.below ad λb O hm=>ad),aj,L⟩
 have bY:=aA.size;have bw:=b9 S ((aJ.2.2.2.1.mono λ_ h=>h.elim).trans aA:Fr (λb=>b=g) w Y) (aJ.2.1.on aA ad) (aJ.2.2.1.on aA ad);clear cm aA S a0 al af;obtain⟨bl,U,aE⟩:=bw.2.2.2.two;obtain⟨cD,aQ,aR⟩:=bw.2.2.1.two;go_wp2_with(fail);generalize aI:World.setCell _ _ _=Z;obtain⟨bq,a5,a4⟩:=hO (M:=λb=>b=g) [.int .i64 1,.int .i64 u.num,.string ⟨#[]⟩,.slice none 0 0] (by rfl) bw.2.2.1 bw.2.1 (JI _) aI;obtain⟨a3,s,an⟩:=bq.two;refine Ke (v:=.agg #[.int .i64 1,.int .i64 u.num,.string ⟨#[]⟩,.slice none 0 0]) (by simp[results,Tryz.results145,go_sem,a3]) rfl ?_;exact⟨_,_,_,_,_,_,rfl,CQ _,bw.1.on a4.drew λb O=>ad,a5.drew⟩
 ):p:=h
end AT
open AT in
theorem uN(g:Nat)(A:Kj)(n c:Nat)(T:List Tok)(k deep:Nat)(w:World)(x:VE)(h:aH w g A n c T k deep)(hx:H0 T k=some x)(aj:k+1<n) :
  Calls prog 145 #[.pointer (some ⟨g,0,none⟩)] w (E5 g A n c T deep w x (k+1)):=by
 have dq:=h.blk.lt;obtain⟨b0,o0,t,bu,z,ht,d0,d1,d2,d3⟩:=h.tok;have r:H0 T k=if t.kind=2 then some (.num t.num) else if t.kind=1 then some (.eP (strOf t.text)) else none:=by unfold H0;rw[ht]
 rw[r] at hx;have aN:jS 2 T k=(t.kind == 2):=by unfold jS;rw[ht]
 have dH:jS 1 T k=(t.kind == 1):=by unfold jS;rw[ht]
 have H:=b9 h ht aN dH;have L:=h.iN;clear h r ht aN dH d0 d1 d2 d3 z bu;go_enter func145,ntmps145;go_upto_region 3 with(fail);generalize ba:World.alloc _ _=W;have ar:=jN ba;have a2:=fQ ba;have cA:=fR ba;have cP:=cA.lt;have ab:=b9 ar (H.1.aj ar) a2 cA;clear ba ar a2 cA;go_wp2_with(fail);refine(ky 2 g A n c T k deep W ab.2.1).mono ?_;rintro e aL ⟨rfl,ag⟩;rw[H.2.2.1];have ct:=ag.size;have H1:=b9 (ab.2.1.aj ag) (ab.2.2.1.aj ag) (ab.2.2.2.aj ag) (ab.1.trans ag);clear ag;by_cases ap:t.kind=2
 .rw[if_pos ap] at hx;injection hx with hx;subst hx;have b4:(t.kind == 2)=true:=by simpa using ap
  rw[b4];clear ap b4;obtain⟨b,o,u,rfl,O,i,c0,c1,c2,c3⟩:=H1.1.tok;have m:u=t:=by
   have:=H.2.1;rw[i] at this;injection this
  subst m;obtain⟨a0,al,af⟩:=H1.1.blk.two;have F:(0:Int)<=(k:Int):=ad;have bI:(k:Int)<(n:Int):=ad;have l:b<aL.heap.size:=ad;obtain⟨bl,U,aE⟩:=H1.2.2.1.two;clear c0 c1 c3 i;go_upto_region 4 with(fail);refine fj (λ_=>False) [(0,3),(1,3),(2,3),(3,0),(4,3),(5,3),(6,3),(7,0),(8,3),(9,3),(10,0),(11,3),(12,2)] ?_
  iterate 3 refine pf ?_
  refine ph ?_
  iterate 3 refine pf ?_
  refine ph ?_
  iterate 2 refine pf ?_
  refine ph ?_;refine pf ?_;exact gM
 .rw[if_neg ap] at hx;have b4:(t.kind == 2)=false:=by simpa using ap
  rw[b4];by_cases ac:t.kind=1
  .rw[if_pos ac] at hx;injection hx with hx;subst hx;clear ap b4;go_wp2_with(fail);refine(ky 1 g A n c T k deep aL H1.1).mono ?_;rintro e aV ⟨rfl,aO⟩;rw[H.2.2.2,show (t.kind == 1)=true by simpa using ac];have bO:=b9 (H1.1.aj aO) (H1.2.1.aj aO) (H1.2.2.1.aj aO) (H1.2.2.2.trans aO);have bz:=aO.size;clear aO;go_wp2_with(fail);refine(g7 g A n c T k deep aV t bO.1 H.2.1 ac aj).mono ?_;rintro e bV ⟨rfl,S,aA⟩;have cu:=aA.size;have cb:=b9 S (bO.2.1.on aA ad) (bO.2.2.1.on aA ad) ((bO.2.2.2.mono λ_ h=>h.elim).trans aA:Fr (λb=>b=g) w bV);clear S aA;obtain⟨bl,U,aE⟩:=cb.2.2.1.two;go_upto_region 24 with(fail);generalize hX:World.setCell _ _ _=X;obtain⟨a6,bf,y⟩:=hO (M:=λb=>b=g) [.int .i64 2,.int .i64 0,.string (strOf t.text),.slice none 0 0] (by rfl) cb.2.2.1 cb.2.2.2 ad hX;have bL:=y.size;have bw:=b9 (cb.1.on y λb O=>ad) bf (cb.2.1.on y ad) a6;clear hX a6 bf y bl U aE;generalize X=Y at *;obtain⟨bl,U,aE⟩:=bw.2.2.2.two;obtain⟨cD,aQ,aR⟩:=bw.2.2.1.two;go_wp2_with(fail);generalize aI:World.setCell _ _ _=Z;obtain⟨bq,a5,a4⟩:=hO (M:=λb=>b=g) [.int .i64 2,.int .i64 0,.string (strOf t.text),.slice none 0 0] (by rfl) bw.2.2.1 bw.2.1 (JI _) aI;obtain⟨a3,s,an⟩:=bq.two;refine Ke (v:=.agg #[.int .i64 2,.int .i64 0,.string (strOf t.text),.slice none 0 0]) (by simp[results,Tryz.results145,go_sem,a3]) rfl ?_;exact⟨_,_,_,_,_,_,rfl,CP _,bw.1.on a4 λb O=>ad,a5⟩
  .rw[if_neg ac] at hx;cases hx
def lg(f:Nat)(T:List Tok)(k:Nat):Option Nat:=(List.range (cS f).length).find? λi=>aN ((cS f).getD i ([],0)).1 T k
def jO(T:List Tok):Nat->Nat->Option (VE×Nat)
 | 0,k=>(H0 T k).map λx=>(x,k+1)
 | d+1,k=>match jO T d k with
  | none=>none
  | some (x,cp)=>match lg (4 - d) T cp with
   | none=>some (x,cp)
   | some i=>match jO T d (cp+1) with
    | none=>none
    | some (y,bE)=>if (lg (4 - d) T bE).isNone then some (.bin ((ha (4 - d)).getD i 0) x y,bE) else none
theorem g3{T:List Tok}:∀(d k u:Nat) (x:VE),jO T d k=some (x,u)->k<u
 | 0,k,u,x,h=>by
  simp only[jO,Option.map_eq_some_iff] at h;obtain⟨a,_,h⟩:=h;injection h with _ h
  omega
 | d+1,k,u,x,h=>by
  unfold jO at h;split at h
  .cases h
  .rename_i Z cp ac;have:=g3 d k cp Z ac;split at h
   .injection h with h;injection h with _ h;omega
   .split at h
    .cases h
    .rename_i y bE ap;have:=g3 d (cp+1) bE y ap;split at h
     .injection h with h;injection h with _ h;omega
     .cases h
theorem qx(h:lg f T k=none)(I:i<(cS f).length):aN ((cS f).getD i ([],0)).1 T k=false:=by
 unfold lg at h;rw[List.find?_eq_none] at h;simpa using h i (List.mem_range.2 I)
theorem qy(h:lg f T k=some i):i<(cS f).length/\aN ((cS f).getD i ([],0)).1 T k=true/\∀j,j<i->aN ((cS f).getD j ([],0)).1 T k=false:=by
 unfold lg at h;have ac:=List.mem_range.1 (List.mem_of_find?_eq_some h);have aD:=List.find?_some h;refine⟨ac,aD,λj be=>?_⟩;have ap:=(List.find?_eq_some_iff_getElem.1 h).2;obtain⟨q,bx,he,aP⟩:=ap;rw[List.getElem_range] at he;subst he;have:=aP j be;rw[List.getElem_range] at this;simpa using this
theorem DB(k:Nat)(aj:k<=4)(w:World):Calls prog 146 #[.int .i64 k] w λe J=>∃n,n=(cS k).length/\n<=6/\e=.returned (.tuple #[.slice (some ⟨w.heap.size,0,none⟩) n n,.slice (some ⟨w.heap.size+1,0,none⟩) n n])/\
  au J w.heap.size 9 ((vg k).map Value.string).toArray/\au J (w.heap.size+1) 3 ((ha k).map (Value.int .i64)).toArray/\Ext w J:=by
 obtain rfl|rfl|rfl|rfl|rfl:k=0\/k=1\/k=2\/k=3\/k=4:=ad
 all_goals
  clear aj;go_enter func146,ntmps146;go_wp2
  go_ret2
  generalize ba:World.alloc (World.alloc w _) _=W;refine⟨_,rfl,by decide,rfl,?_,?_,?_⟩
  .rw[<-ba];exact(Kg).alloc _
  .rw[<-ba];exact au.k5 _ _ _ (by simp)
  .rw[<-ba];exact(Kf.alloc _).alloc _
def DU(d:Nat):Prop:=∀(z:Int),z=5 - (d:Int)->∀(g:Nat) (A:Kj) (n c:Nat) (T:List Tok) (k deep:Nat) (w:World) (x:VE) (u:Nat),aH w g A n c T k deep->jO T d k=some (x,u)->u<n->
 Calls prog 127 #[.pointer (some ⟨g,0,none⟩),.int .i64 z] w (E5 g A n c T deep w x u)
theorem CB:DU 0:=by
 intro z bi g A n c T k deep w x u h hx aj;subst bi;simp only[jO,Option.map_eq_some_iff] at hx;obtain⟨a,bE,hx⟩:=hx;injection hx with ac ap;subst ac ap;have H:=ae h;have dq:=h.blk.lt;have HA:=ae bE;clear h bE;go_enter func127,ntmps127;go_upto_region 1 with(fail);generalize ba:World.alloc _ _=W;have ar:=aY ba;have a2:=aF ba;have ab:=av ar (H.aj ar) a2;have cP:=a2.lt;clear ba ar a2;go_wp2_with(fail);refine(uN g A n c T k deep W a ab.2.1 HA.o aj).mono ?_;rintro e aL ⟨op,r,os,o,on,P,rfl,aZ,S,hF⟩;have ct:=hF.size;have H1:=b9 aZ S ((ab.1.mono λ_ h=>h.elim).trans hF:Fr (λb=>b=g) w aL) (ab.2.2.on hF ad);clear aZ S hF;obtain⟨bl,U,aE⟩:=H1.2.2.2.two;go_wp2_with(fail);generalize aI:World.setCell _ _ _=Z;obtain⟨bq,a5,a4⟩:=hO (M:=λb=>b=g) [.int .i64 op,.int .i64 r,.string os,.slice o on P] (by rfl) H1.2.2.2 H1.2.2.1 (JI _) aI;have cF:=a4.size;obtain⟨a3,s,an⟩:=bq.two;refine Ke (v:=.agg #[.int .i64 op,.int .i64 r,.string os,.slice o on P]) (by simp[results,Tryz.results127,go_sem,a3]) rfl ?_;exact⟨op,r,os,o,on,P,rfl,D.aA (λb O=>⟨by have:=O.1;omega,by have:=O.2;omega⟩) _ _ (D.aD (λb O=>a4.block b O.2 (aC O.1)) _ _ H1.1),H1.2.1.on a4 λb O=>ad,a5⟩
theorem w0{d u:Nat}{x:VE}(h:jO T (d+1) k=some (x,u)):∃bl cp,jO T d k=some (bl,cp)/\cp<=u/\
  ((lg (4 - d) T cp=none/\x=bl/\u=cp)\/∃i y,lg (4 - d) T cp=some i/\jO T d (cp+1)=some (y,u)/\lg (4 - d) T u=none/\x=.bin ((ha (4 - d)).getD i 0) bl y):=by
 unfold jO at h;split at h
 .cases h
 .rename_i Z cp ac;refine⟨Z,cp,ac,?_⟩;split at h
  .rename_i ap;injection h with h;injection h with e1 e2;subst e1 e2;exact⟨JI _,.inl ⟨ap,rfl,rfl⟩⟩
  .rename_i i ap;split at h
   .cases h
   .rename_i y bE aD;split at h
    .rename_i bt;injection h with h;injection h with e1 e2;subst e1 e2;have:=g3 d (cp+1) bE y aD;exact⟨ad,.inr ⟨i,y,ap,aD,by simpa using bt,rfl⟩⟩
    .cases h
def uK(g:Nat)(w:World):Nat:=match w.cell? ⟨g,1,none⟩ with|some (.int _ z)=>z.toNat|_=>0
theorem aH.uK{w:World}{g:Nat}{A:Kj}{n c:Nat}{T:List Tok}{k deep:Nat}(h:aH w g A n c T k deep):Go.Proofs.YtnigabjngpnbiaaGreat.uK g w=k:=by
 unfold Go.Proofs.YtnigabjngpnbiaaGreat.uK;rw[h.blk.two.1 1];show ((k:Int)).toNat=k
 omega
def IF:Value->Nat
 | .bool true=>1
 | _=>0
structure E3(g:Nat)(A:Kj)(n c:Nat)(T:List Tok)(deep:Nat)(w:World)(L gs f:Nat)(wr:World)(E:VE)(R:Nat)(op r:Int)(os:ByteArray)(o:Kj)(on P:Nat):Prop where
 ps:aH wr g A n c T R deep
 bx:au wr L 72 #[.int .i64 op,.int .i64 r,.string os,.slice o on P]
 rp:(bB E).rep wr (λb=>w.heap.size<b/\b≠L/\b<wr.heap.size) [.int .i64 op,.int .i64 r,.string os,.slice o on P]
 b0:au wr w.heap.size 72 #[.int .i64 0,.int .i64 0,.string ⟨#[]⟩,.slice none 0 0]
 fr:Fr (λb=>b=g) w wr
 bs:au wr gs 9 ((vg f).map Value.string).toArray
 bo:au wr (gs+1) 3 ((ha f).map (Value.int .i64)).toArray
 lt:g<w.heap.size/\w.heap.size<L/\L<gs/\gs+1<wr.heap.size
theorem E3.step{g:Nat}{A:Kj}{n c:Nat}{deep:Nat}{L gs:Nat}{wr aV:World}{E:VE}{R bE:Nat}{op r:Int}{os:ByteArray}{o:Kj}{on P:Nat}
  (h:E3 g A n c T deep w L gs f wr E R op r os o on P) (aA:Fr (λb=>b=g) wr aV) (S:aH aV g A n c T bE deep):E3 g A n c T deep w L gs f aV E bE op r os o on P:=by
 obtain⟨b7,dp,aP,aR⟩:=h.lt;have hs:=aA.size;exact⟨S,h.bx.on aA ad,D.aA (λb O=>⟨O.1,O.2.1,ad⟩) _ _ (D.aD (λb O=>aA.block b O.2.2 ad) _ _ h.rp),h.b0.on aA ad,h.fr.trans aA,h.bs.on aA ad,h.bo.on aA ad,⟨b7,dp,aP,ad⟩⟩
theorem Dx(h:i<(cS f).length):((vg f).map Value.string).toArray[i]?=some (.string (strOf ((cS f).getD i ([],0)).1))/\((ha f).map (Value.int .i64)).toArray[i]?=some (.int .i64 ((ha f).getD i 0)):=by
 have ac:(cS f)[i]?=some (cS f)[i]:=List.getElem?_eq_getElem h;simp[vg,ha,ac,List.getD_eq_getElem?_getD]
theorem CA(d:Nat)(hd:d<5)(a1:DU d):DU (d+1):=by
 intro z bi g A n c T k deep w x u h hx aj;obtain⟨bl,cp,ac,bI,l⟩:=w0 hx;obtain⟨f,a8⟩:∃f,f=4 - d:=⟨_,rfl⟩
 have bT:f<=4:=ad;have bJ:z=(f:Int):=ad;subst bJ;rw[<-a8] at l;have hn:¬(f:Int) > 4:=ad;have bu:(f:Int)+1=5 - (d:Int):=ad;have b2:=ae (a1 ((f:Int)+1) bu);have H:=av h ac l;have dq:=h.blk.lt;clear h ac l hx a1 bi a8 bu;go_enter func127,ntmps127;go_upto_region 1 with(fail);generalize ba:World.alloc _ _=W;have ar:=aY ba;have a2:=aF ba;have ab:=av ar (H.1.aj ar) a2;have cP:=a2.lt;clear ba ar a2;go_wp2_with(fail);refine(b2.o g A n c T k deep W bl cp ab.2.1 H.2.1 ad).mono ?_;rintro e aL ⟨op,r,os,o,on,P,rfl,aZ,S,hF⟩;have ct:=hF.size;have H1:=b9 aZ S ((ab.1.mono λ_ h=>h.elim).trans hF:Fr (λb=>b=g) w aL) (ab.2.2.on hF ad);clear aZ S hF;go_upto_region 4 with(fail);generalize hX:World.alloc _ _=X;have bf:=aY hX;have a6:=aF hX;have bp:=a6.lt;have aJ:=ak bf a6;clear hX bf a6;go_wp2_with(fail);refine(DB f bT X).mono ?_;rintro e aV ⟨N,bo,bY,rfl,G,bg,aO⟩;have bz:=bg.lt;have aK:E3 g A n c T deep w aL.heap.size X.heap.size f aV bl cp op r os o on P:=by
  have ar:=aJ.1.trans aO;have b0:=ar.size;exact⟨H1.2.1.aj ar,aJ.2.aj aO,D.aA (λb O=>⟨by have:=O.1;omega,by have:=O.2;omega,by have:=O.2;omega⟩) _ _ (D.aD (λb O=>ar.block b O.2 λh=>h) _ _ H1.1),H1.2.2.2.aj ar,H1.2.2.1.trans (ar.mono λ_ h=>h.elim),G,bg,⟨dq,ad,ad,bz⟩⟩
 have bL:=ak aK bo;clear aK G bg aO H1 aJ ab bo;generalize aL.heap.size=L at *;generalize X.heap.size=gs at *;go_wp2_with(fail);go_loopw [8] (λbv wr=>∃(bb:Bool) (E:VE) (R:Nat) (op r:Int) (os:ByteArray) (o:Kj) (on P:Nat),bv=.bool bb/\E3 g A n c T deep w L gs f wr E R op r os o on P/\R<=u/\((bb=true/\E=bl/\R=cp)\/(bb=true/\E=x/\R=u/\lg f T R=none)\/(bb=false/\E=x/\R=u))) (λbv wr=>2*(n - uK g wr)+IF bv)
 case atStart=>exact⟨true,bl,cp,op,r,os,o,on,P,rfl,bL.1,bI,.inl ⟨rfl,rfl,rfl⟩⟩
 case round=>
  obtain⟨bb,E,R,ao,al,aw,Q,am,ai,rfl,m,cH,hc⟩:=hrel;have ax:=ae m;have aa:=m.ps.uK;cases bb
  case false=>
   obtain⟨rfl,rfl⟩:E=x/\R=u:=by
    rcases hc with⟨h,_⟩|⟨h,_⟩|⟨_,ac,ap⟩
    .cases h
    .cases h
    .exact⟨ac,ap⟩
   obtain⟨bP,U,aE⟩:=m.bx.two;obtain⟨cD,aQ,aR⟩:=m.b0.two;have aq:=m.lt;clear hc m aa;go_wp2_with(fail);generalize aI:World.setCell _ _ _=Z;obtain⟨bq,a5,a4⟩:=hO (M:=λb=>b=g) [.int .i64 ao,.int .i64 al,.string aw,.slice Q am ai] (by rfl) ax.b0 ax.fr (JI _) aI;have cF:=a4.size;obtain⟨a3,s,an⟩:=bq.two;refine Ke (v:=.agg #[.int .i64 ao,.int .i64 al,.string aw,.slice Q am ai]) (by simp[results,Tryz.results127,go_sem,a3]) rfl ?_;exact⟨ao,al,aw,Q,am,ai,rfl,D.aA (λb O=>⟨by have:=O.1;omega,by have:=O.2;omega⟩) _ _ (D.aD (λb O=>a4.block b O.2.2 (aC O.1)) _ _ ax.rp),ax.ps.on a4 λb O=>ad,a5⟩
  case true=>
   have aX:(lg f T R=none/\E=x/\R=u)\/∃i y,lg f T R=some i/\jO T d (R+1)=some (y,u)/\lg f T u=none/\x=.bin ((ha f).getD i 0) E y:=by
    rcases hc with⟨_,ac,ap⟩|⟨_,ac,ap,aD⟩|⟨h,_⟩
    .subst ac ap;rcases H.2.2 with⟨ac,ap,aD⟩|h
     .exact .inl ⟨ac,ap.symm,aD.symm⟩
     .exact .inr h
    .exact .inl ⟨aD,ac,ap⟩
    .cases h
   have aA:=ae aX;clear aX hc m;go_wp2_with(fail);go_loopw [8,9] (λbv cr bV=>∃i:Nat,cr=.int .i64 i/\i<=N/\((bv=.bool false/\(∀j,j<i->aN ((cS f).getD j ([],0)).1 T R=false)/\E3 g A n c T deep w L gs f bV E R ao al aw Q am ai)\/(bv=.bool true/\lg f T u=none/\R<u/\∃(bD bB:Int) (bE:ByteArray) (bw:Kj) (bC bA:Nat),E3 g A n c T deep w L gs f bV x u bD bB bE bw bC bA))) (λ_ cr _=>N - (intOf cr).toNat)
   case atStart=>exact⟨0,rfl,ad,.inl ⟨rfl,λj h=>ad,ax.o⟩⟩
   case round=>
    obtain⟨i,rfl,I,aB⟩:=hrel;rcases aB with⟨rfl,bK,m⟩|⟨rfl,aT,bM,bD,bB,bE,bw,bC,bA,m⟩
    .have bN:=ae m;have ay:=ae bK;clear bK m;by_cases aq:i<N
     .have aS:(i:Int)<(N:Int):=ad;have bk:i<(cS f).length:=by have:=bL.2;omega
      obtain⟨b4,ck⟩:=Dx bk;have c0:=(bN.bs.two.1 i).trans b4;have c6:=ae ck;have aH:=bN.lt;obtain⟨bQ,Y⟩:∃bQ,((cS f).getD i ([],0)).1=bQ:=⟨_,rfl⟩
      rw[Y] at c0;have bc:=ae Y;obtain⟨bO,bs⟩:∃bO,aN bQ T R=bO:=⟨_,rfl⟩
      have a0:=ae bs;have bG:bO=true->R+1<n:=λbx=>by
       subst bx;rcases aA.o with⟨h,ac,ap⟩|⟨i0,y,_,ac,_⟩
       .have:=qx h bk;rw[Y,bs] at this;cases this
       .have:=g3 d _ _ _ ac;omega
      clear b4 ck Y bs;go_wp2_with(fail);refine(aW bQ g A n c T R deep wr bN.ps bO a0.o bG).mono ?_;rintro e cE ⟨rfl,S,hF⟩;have dc:=hF.size;cases bO
      .have br:=ae (bN.step hF S);clear S hF c0;go_wp2_with(fail);go_roundw
       case rel=>exact⟨i+1,by go_num,ad,.inl ⟨rfl,λj be=>by
        by_cases ag:j=i
        .subst ag;rw[bc.o];exact a0.o
        .exact ay.o j ad,br.o⟩⟩
       case measure=>simp[intOf]<;>omega
      .have br:=ae (bN.step hF S);obtain⟨y,bh,aT,ca⟩:∃y,jO T d (R+1)=some (y,u)/\lg f T u=none/\x=.bin ((ha f).getD i 0) E y:=by
        rcases aA.o with⟨h,_⟩|⟨i0,y,ac,ap,aD,bt⟩
        .have:=qx h bk;rw[bc.o,a0.o] at this;cases this
        .obtain⟨bX,g2,cv⟩:=qy ac;have bS:i0=i:=by
          rcases Nat.lt_trichotomy i0 i with h|h|h
          .rw[ay.o i0 h] at g2;cases g2
          .exact h
          .have:=cv i h;rw[bc.o,a0.o] at this;cases this
         subst bS;exact⟨y,ap,aD,bt⟩
       have bM:=g3 d _ _ _ bh;have bd:=av bh aT ca;clear S hF c0 bh aT ca;obtain⟨bP,U,aE⟩:=br.bx.two;have c1:=(br.bo.two.1 i).trans c6.o;have dp:gs+1<cE.heap.size:=br.lt.2.2.2;have b3:IntKind.i64.wrap ((f:Int)+1)=(f:Int)+1:=IntWalk.i64_in _ ad;have bW:¬L=g:=ad;have F:¬gs+1=g:=ad;go_upto_region 12 with(fail);refine fj (λb=>b=g) [(0,3),(1,3),(2,3),(3,0),(4,0),(5,3),(6,3),(7,3),(8,1),(9,1),(10,3),(11,2),(12,3)] ?_
       iterate 3 refine pf ?_
       iterate 2 refine pK ?_
       iterate 3 refine pf ?_
       refine aP rfl (λK hK=>?_);go_simp;refine(b2.o g A n c T (R+1) deep cE.drew y u (br.ps.aj Kf.drew) bd.1 aj).mono ?_;rintro e cy ⟨cX,c7,co,b5,cz,df,rfl,aU,bF,bm⟩;have aM:Fr (λb=>b=g) cE cy:=Fr.aL bm;have dj:=aM.size;have ah:=ak (br.step aM bF) aU;refine gu hK (bm) ?_;clear hK K;clear aU bF bm aM bP U aE c1;refine sG ?_;generalize hV:World.alloc _ _=V;have a9:=aY hV;have b8:=aF hV;have dn:=b8.lt;have bR:=av a9 b8 (ah.1.step (a9.mono λ_ h=>h.elim) (ah.1.ps.aj a9));clear hV a9 b8;obtain⟨v0,a7,bU⟩:=bR.2.2.bx.two;refine pf ?_;refine az rfl (λK hK=>?_);go_simp;refine eC hK ?_;clear hK K;refine pf ?_;refine aG ?_;generalize aI:World.setCell _ _ _=Z;have aq:=bR.2.2.lt;obtain⟨bq,a5,a4⟩:=hO (M:=λb=>b=g) [.int .i64 ((ha f).getD i 0),.int .i64 0,.string ⟨#[]⟩,.slice (some ⟨cy.heap.size,0,none⟩) 2 2] (by rfl) bR.2.2.bx bR.2.2.fr ad aI;have cF:=a4.size;have b1:=ah.1.lt;have af:∀b,b<cy.heap.size->b≠L->Z.heap[b]?=cy.heap[b]?:=λb ac ap=>(a4.block b ad ap).trans (bR.1.block b ac λh=>h);have bZ:cE.drew.heap.size=cE.heap.size:=rfl;have bH:=D.aA (c5:=λb=>w.heap.size<b/\b≠L/\b<Z.heap.size) (λb O=>⟨O.1,O.2.1,by have:=O.2.2;omega⟩) _ _ (D.aD (λb O=>af b O.2.2 O.2.1) _ _ ah.1.rp);have aU:=D.aA (c5:=λb=>w.heap.size<b/\b≠L/\b<Z.heap.size) (λb O=>⟨by have:=O.1;omega,by have:=O.1;omega,by have:=O.2;omega⟩) _ _ (D.aD (λb O=>af b O.2 (aC O.1)) _ _ ah.2);have m:E3 g A n c T deep w L gs f Z x u ((ha f).getD i 0) 0 ⟨#[]⟩ (some ⟨cy.heap.size,0,none⟩) 2 2:=by
        refine⟨bR.2.2.ps.on a4 λb O=>ad,bq,?_,bR.2.2.b0.on a4 ad,a5,bR.2.2.bs.on a4 ad,bR.2.2.bo.on a4 ad,⟨aq.1,aq.2.1,aq.2.2.1,ad⟩⟩;rw[bd.2.2];exact bj.2 ⟨some ⟨cy.heap.size,0,none⟩,2,2,rfl,JI _,Sl.GL (cs:=[.int .i64 ao,.int .i64 al,.string aw,.slice Q am ai,.int .i64 cX,.int .i64 c7,.string co,.slice b5 cz df]) (bR.2.1.on a4 ad) (jt.2 ⟨_,_,rfl,bH,D.bt.2 aU⟩) ⟨ad,ad,ad⟩ rfl⟩
       have bn:=ae m;clear aI bq a5 a4 af bH aU m v0 a7 bU;go_wp2_with(fail);go_roundw
       case rel=>exact⟨i+1,by go_num,ad,.inr ⟨rfl,bd.2.1,ad,_,_,_,_,_,_,bn.o⟩⟩
       case measure=>simp[intOf]<;>omega
     .have aS:¬(i:Int)<(N:Int):=ad;have jP:E=x/\R=u:=by
       rcases aA.o with⟨_,ac,ap⟩|⟨i0,y,ac,_⟩
       .exact⟨ac,ap⟩
       .obtain⟨ap,aD,_⟩:=qy ac;rw[ay.o i0 (aC bL.2)] at aD;cases aD
      have J:=bN.ps.uK;go_wp2_with(fail);go_roundw
      case rel=>exact⟨false,E,R,ao,al,aw,Q,am,ai,rfl,bN.o,cH,.inr (.inr ⟨rfl,jP⟩)⟩
      case measure=>rw[aa,J];simp[IF]
    .have bN:=ae m;have J:=m.ps.uK;clear m;by_cases aq:i<N
     case' pos=>have aS:(i:Int)<(N:Int):=ad
     case' neg=>have aS:¬(i:Int)<(N:Int):=ad
     all_goals
      go_wp2_with(fail);go_roundw
      case rel=>exact⟨true,x,u,bD,bB,bE,bw,bC,bA,rfl,bN.o,JI _,.inr (.inl ⟨rfl,rfl,rfl,aT⟩)⟩
      case measure=>rw[aa,J];simp[IF];omega
theorem kv:∀d,d<=5->DU d
 | 0,_=>CB
 | d+1,h=>CA d ad (kv d ad)
namespace AU
theorem y5(h:p:=by
 obtain⟨bA,ce,bu⟩:=hO (M:=λb=>b=g) (w:=w) [.string (strOf t.text),.int .i64 0] (by rfl) cb.2.2 cb.2.1 (JI _) cm;have bw:=ak (cb.1.on bu λb O=>ad) ce;clear cm ce bu bh an aM;obtain⟨bh,an,aM⟩:=bA.two;refine Ke (v:=.agg #[.string (strOf t.text),.int .i64 0]) (by simp[results,Tryz.results51,go_sem,bh]) rfl ?_;exact⟨rfl,bw.1,bw.2⟩
 ):p:=h
theorem tx(h:p:=by
 refine(show Calls prog 50 #[.pointer (some ⟨g,0,none⟩),.string ⟨#[61]⟩] X _ from aW [61] g A n c T (k+1) deep X aJ.1 false br.2.2.1 (λh=>by cases h)).mono ?_;exact y4
 ):p:=h
theorem tK(h:p:=by
 exact Ay
 ):p:=h
end AU
open AU in
theorem xq(g:Nat)(A:Kj)(n c:Nat)(T:List Tok)(k deep:Nat)(w:World)(t:Tok)(h:aH w g A n c T k deep)(ht:T[k]?=some t)(bx:t.kind=1)(bK:aN [61] T (k+1)=false)(ap:aN [59] T (k+1)=true)(aj:k+2<n) :
  Calls prog 51 #[.pointer (some ⟨g,0,none⟩)] w λe J=>e=.returned (.agg #[.string (strOf t.text),.int .i64 0])/\aH J g A n c T (k+2) deep/\Fr (λb=>b=g) w J:=by
 have H:=ae h;have br:=b9 ht bx bK ap;have bC:=h.blk.lt;clear h bx ht bK ap;go_enter func51,ntmps51;exact tJ
namespace AV
theorem qW(h:p:=by
 have bz:=(H1.2.trans hF).size;obtain⟨co,bQ,I⟩:=bO.1.blk.two;clear S hF H1;go_wp2_with(fail);refine wp_loop_rounds 1 ?_;rw[rounds_succ];go_upto_region 7 with(fail);generalize hX:World.alloc _ _=X;have bf:=aY hX;have a6:=aF hX;have aJ:=av (bO.1.aj bf) ((bO.2.trans (bf.mono λ_ h=>h.elim)):Fr (λb=>b=g) w X) a6;have Q:=a6.lt;clear hX bf a6 co bQ I;go_wp2_with(fail);refine(show Calls prog 50 #[.pointer (some ⟨g,0,none⟩),.string ⟨#[109,117,116,101,120]⟩] X _ from aW [109,117,116,101,120] g A n c T (k+1) deep X aJ.1 false br.2.2.1 (λh=>by cases h)).mono ?_;rintro e bV ⟨rfl,S,hF⟩;have cu:=hF.size;have cb:=av (show aH bV g A n c T (k+1) deep from by simpa using S) (aJ.2.1.trans hF) (aJ.2.2.on hF ad);clear S hF;go_wp2_with(fail);refine(kv 5 ad 0 ad g A n c T (k+1) deep bV x bE cb.1 br.2.2.2.1 ad).mono ?_;rintro e cE ⟨op,r,os,o,on,P,rfl,aZ,S,hF⟩;obtain⟨fg,fd,fx,heq,m,bL⟩:=bj.1 aZ;simp only[List.cons.injEq,Value.int.injEq,Value.string.injEq,Value.slice.injEq,true_and,and_true] at heq;obtain⟨rfl,rfl,rfl,rfl,rfl,rfl⟩:=heq;have dc:=hF.size;have bg:=dT S (cb.2.1.trans hF) (cb.2.2.on hF ad) m bL;obtain⟨bl,U,aE⟩:=bg.2.2.1.two;clear S hF aZ m bL;go_upto_region 10 with(fail);generalize cm:World.setCell _ _ _=Y;obtain⟨bA,bu⟩:=ej 3 [.int .i64 x.bP,.int .i64 x.numOf,.string x.dt,.slice o on P] bg.2.2.1 cm;have bA:au Y aV.heap.size 215 #[.bool false,.string ⟨#[]⟩,.slice none 0 0,.int .i64 x.bP,.int .i64 x.numOf,.string x.dt,.slice o on P]:=bA;have bY:=bu.size
 have j:Sl Y (mS (λb=>w.heap.size<=b) Y (.slice none 0 0)) o on (x.args.map bB):=(bg.2.2.2.2.al λb O=>bu.block b O.2 (aC O.1)).mono λb O=>⟨by have:=O.1;omega,by have:=O.2;omega,by simp[Value.ownBlock]⟩
 have M:=ae (show (eg (.ex x)).rep Y (mS (λb=>w.heap.size<=b) Y (.slice none 0 0)) (#[.bool false,.string ⟨#[]⟩,.slice none 0 0,.int .i64 x.bP,.int .i64 x.numOf,.string x.dt,.slice o on P]:Array Value).toList from ER j bg.2.2.2.1);have bw:=av (bg.1.on bu λb O=>ad) (Fr.mono (M':=λb=>b=g\/w.heap.size<=b) (Fr.trans (bg.2.1.mono (M':=λb=>b=g\/b=aV.heap.size) λ_ h=>.inl h) (bu.mono λ_ h=>.inr h)) λb O=>(by rcases O with h|h;exact .inl h;exact .inr ad)) bA;obtain⟨cD,aQ,aR⟩:=bA.two;clear cm bu bA j bl U aE;go_wp2_with(at_builtin;refine cn vR rfl (.tmp 23) (.tmp 25) rfl (Gr.nil (λb=>w.heap.size<=b) w.heap.size 215 7 Y) (d:=eg (.ex x)) (cs:=#[.bool false,.string ⟨#[]⟩,.slice none 0 0,.int .i64 x.bP,.int .i64 x.numOf,.string x.dt,.slice o on P]) M.o rfl rfl rfl ad ad ad ?_;intro bU c3 cy bX g2 cv cR;have bN:=av bX g2 cR;clear bX g2 cv cR);have bK:∀b,(Value.slice none 0 0).ownBlock=some b->False:=λb O=>by simp[Value.ownBlock] at O
 have s:aH cy g A n c T bE deep:=bw.1.on bN.2.1 λb O=>(bK b O).elim;have i:Fr (λb=>b=g) w cy:=Fr.cut (Fr.trans bw.2.1 (bN.2.1.mono λb O=>(bK b O).elim));have cX:=av s i bN.o;have dj:=i.size;clear s i cD aQ aR bK;refine(show Calls prog 50 #[.pointer (some ⟨g,0,none⟩),.string ⟨#[44]⟩] cy _ from aW [44] g A n c T bE deep cy cX.1 false br.2.2.2.2.1 (λh=>by cases h)).mono ?_;rintro e cJ ⟨rfl,S,hF⟩;have cK:=hF.size;have ab:=av (show aH cJ g A n c T bE deep from by simpa using S) (cX.2.1.trans hF) (cX.2.2.1.eQ hF λb O _=>⟨ad,ad⟩);clear S hF;go_wp2_with(fail);refine(show Calls prog 103 #[.pointer (some ⟨g,0,none⟩),.string ⟨#[41]⟩] cJ _ from eZ [41] g A n c T bE deep cJ ab.1 br.2.2.2.2.2 ad).mono ?_;exact FJ
 ):p:=h
end AV
open AV in
theorem EH(g:Nat)(A:Kj)(n c:Nat)(T:List Tok)(k deep:Nat)(x:VE)(bE:Nat)(w:World)(h:aH w g A n c T k deep)(ac:aN [40] T k=true)(ap:aN [41] T (k+1)=false)(aD:aN [109,117,116,101,120] T (k+1)=false)(O:jO T 5 (k+1)=some (x,bE))(bt:aN [44] T bE=false)(cl:aN [41] T bE=true)(aj:bE+1<n) :
  Calls prog 128 #[.pointer (some ⟨g,0,none⟩)] w λe J=>∃D l,e=.returned (.slice D 1 l)/\1<=l/\aH J g A n c T (bE+1) deep/\Fr (λb=>b=g) w J/\Sl J (fresh w J) D 1 ([dh.ex x].map eg):=by
 have H:=ae h;have bC:=h.blk.lt;have cH:=g3 _ _ _ _ O;have br:=dq ac ap aD O bt cl;clear h ac ap aD O bt cl;go_enter func128,ntmps128;exact qV
namespace AW
theorem qW(h:p:=by
 have bz:=(H1.2.trans hF).size;obtain⟨co,bQ,I⟩:=bO.1.blk.two;clear S hF H1;go_wp2_with(fail);refine wp_loop_rounds 1 ?_;rw[rounds_succ];go_wp2_with(fail);refine(show Calls prog 50 #[.pointer (some ⟨g,0,none⟩),.string ⟨#[109,117,116,101,120]⟩] aV _ from aW [109,117,116,101,120] g A n c T (k+1) deep aV bO.1 false br.2.2.1 (λh=>by cases h)).mono ?_;rintro e bV ⟨rfl,S,hF⟩;have cu:=hF.size;have cb:=ak (show aH bV g A n c T (k+1) deep from by simpa using S) (bO.2.trans hF);clear S hF co bQ I;go_upto_region 9 with(fail);generalize hX:World.alloc _ _=X;have bf:=aY hX;have a6:=aF hX;have aJ:=av (cb.1.aj bf) ((cb.2.trans (bf.mono λ_ h=>h.elim)):Fr (λb=>b=g) w X) a6;have Q:=a6.lt;clear hX bf a6;go_wp2_with(fail);refine(g7 g A n c T (k+1) deep X t aJ.1 br.2.2.2.1 br.2.2.2.2.1 ad).mono ?_;rintro e cE ⟨rfl,S,hF⟩;have dc:=hF.size;have bg:=av (show aH cE g A n c T (k+2) deep from S) (aJ.2.1.trans hF) (aJ.2.2.on hF ad);obtain⟨bl,U,aE⟩:=bg.2.2.two;clear S hF;go_upto_region 10 with(fail);generalize cm:World.setCell _ _ _=Y;obtain⟨bA,bu⟩:=ej 0 [.string (strOf t.text)] bg.2.2 cm;have bA:au Y bV.heap.size 166 #[.string (strOf t.text),.bool false]:=bA;have bY:=bu.size;have M:=ae (show (dU (strOf t.text,false)).rep Y (mS (λb=>w.heap.size<=b) Y (.slice none 0 0)) (#[.string (strOf t.text),.bool false]:Array Value).toList from p5 _ _)
 have bw:=av (bg.1.on bu λb O=>ad) (Fr.mono (M':=λb=>b=g\/w.heap.size<=b) (Fr.trans (bg.2.1.mono (M':=λb=>b=g\/b=bV.heap.size) λ_ h=>.inl h) (bu.mono λ_ h=>.inr h)) λb O=>(by rcases O with h|h;exact .inl h;exact .inr ad)) bA;obtain⟨cD,aQ,aR⟩:=bA.two;clear cm bu bA bl U aE;go_wp2_with(at_builtin;refine cn Ct rfl (.tmp 33) (.tmp 35) rfl (Gr.nil (λb=>w.heap.size<=b) w.heap.size 166 2 Y) (d:=dU (strOf t.text,false)) (cs:=#[.string (strOf t.text),.bool false]) M.o rfl rfl rfl ad ad ad ?_;intro bU c3 cy bX g2 cv cR;have bN:=av bX g2 cR;clear bX g2 cv cR);have bK:∀b,(Value.slice none 0 0).ownBlock=some b->False:=λb O=>by simp[Value.ownBlock] at O
 have s:aH cy g A n c T (k+2) deep:=bw.1.on bN.2.1 λb O=>(bK b O).elim;have i:Fr (λb=>b=g) w cy:=Fr.cut (Fr.trans bw.2.1 (bN.2.1.mono λb O=>(bK b O).elim));have cX:=av s i bN.o;have dj:=i.size;clear s i cD aQ aR bK;refine(show Calls prog 50 #[.pointer (some ⟨g,0,none⟩),.string ⟨#[44]⟩] cy _ from aW [44] g A n c T (k+2) deep cy cX.1 false br.2.2.2.2.2.1 (λh=>by cases h)).mono ?_;rintro e cJ ⟨rfl,S,hF⟩;have cK:=hF.size;have ab:=av (show aH cJ g A n c T (k+2) deep from by simpa using S) (cX.2.1.trans hF) (cX.2.2.1.eQ hF λb O _=>⟨ad,ad⟩);clear S hF;go_wp2_with(fail);refine(show Calls prog 103 #[.pointer (some ⟨g,0,none⟩),.string ⟨#[41]⟩] cJ _ from eZ [41] g A n c T (k+2) deep cJ ab.1 br.2.2.2.2.2.2 ad).mono ?_;exact FJ
 ):p:=h
end AW
open AW in
theorem xr(g:Nat)(A:Kj)(n c:Nat)(T:List Tok)(k deep:Nat)(t:Tok)(w:World)(h:aH w g A n c T k deep)(ac:aN [40] T k=true)(ap:aN [41] T (k+1)=false)(aD:aN [109,117,116,101,120] T (k+1)=false)(ht:T[k+1]?=some t)(bx:t.kind=1)(bt:aN [44] T (k+2)=false)(cl:aN [41] T (k+2)=true)(aj:k+3<n) :
  Calls prog 54 #[.pointer (some ⟨g,0,none⟩)] w λe J=>∃D l,e=.returned (.slice D 1 l)/\1<=l/\aH J g A n c T (k+3) deep/\Fr (λb=>b=g) w J/\Sl J (fresh w J) D 1 ([(strOf t.text,false)].map dU):=by
 have H:=ae h;have bC:=h.blk.lt;have br:=jE ac ap aD ht bx bt cl;clear h ac ap aD ht bx bt cl;go_enter func54,ntmps54;exact qV
theorem gk{t:Tok}(ht:T[k]?=some t)(bx:t.kind=1)(s:List UInt8):aN s T k=false:=by
 unfold aN;rw[ht];simp[bx]
theorem uM(g:Nat)(A:Kj)(n c:Nat)(T:List Tok)(k deep:Nat)(w:World)(t:Tok)(x:VE)(cB:Nat)(h:aH w g A n c T k deep)(ht:T[k]?=some t)(bx:t.kind=1)(ac:aN [40] T (k+1)=false)(ap:aN [61] T (k+1)=true)(O:jO T 5 (k+2)=some (x,cB))(aD:aN [59] T cB=true)(aj:cB+1<n) :
  Calls prog 104 #[.pointer (some ⟨g,0,none⟩)] w λe J=>∃cs:List Value,cs.length=11/\e=.returned (.agg cs.toArray)/\(cc (.set false (strOf t.text) x)).rep J (fresh w J) cs/\aH J g A n c T (cB+1) deep/\Fr (λb=>b=g) w J:=by
 have H:=ae h;have cH:=g3 _ _ _ _ O;have br:=dq ht bx ac ap O aD;have bC:=h.blk.lt;clear h ht bx ac ap O aD;go_enter func104,ntmps104;go_upto_region 8 with(fail);generalize ba:World.alloc _ _=v0;have ar:=jN ba;have ag:=fQ ba;have bS:=fR ba;have bJ:Kl (rT w v0 g A n c T k deep (ni 0 ⟨#[]⟩ ⟨#[]⟩)):=ae ⟨H.aj ar,ar.mono λ_ h=>h.elim,ag,bS⟩;clear ba ar ag bS;go_wp2_with(fail);refine(show Calls prog 50 #[.pointer (some ⟨g,0,none⟩),.string ⟨#[118,97,114]⟩] v0 _ from aW [118,97,114] g A n c T k deep v0 bJ.ps false (gk br.1 br.2.1 _) (λh=>by first|omega|cases h)).mono ?_;rintro e v1 ⟨rfl,S,hF⟩;have ay:=ae (bJ.on bC (show aH v1 g A n c T (k) deep from by simpa using S) hF);clear S hF bJ;go_wp2_with(fail);refine(show Calls prog 50 #[.pointer (some ⟨g,0,none⟩),.string ⟨#[103,111]⟩] v1 _ from aW [103,111] g A n c T k deep v1 ay.ps false (gk br.1 br.2.1 _) (λh=>by first|omega|cases h)).mono ?_;rintro e v2 ⟨rfl,S,hF⟩;have aw:=ae (ay.on bC (show aH v2 g A n c T (k) deep from by simpa using S) hF);clear S hF ay;go_wp2_with(fail);refine(show Calls prog 50 #[.pointer (some ⟨g,0,none⟩),.string ⟨#[108,111,99,107]⟩] v2 _ from aW [108,111,99,107] g A n c T k deep v2 aw.ps false (gk br.1 br.2.1 _) (λh=>by first|omega|cases h)).mono ?_;rintro e ax ⟨rfl,S,hF⟩;have aX:=ae (aw.on bC (show aH ax g A n c T (k) deep from by simpa using S) hF);clear S hF aw;go_wp2_with(fail)
 refine(show Calls prog 50 #[.pointer (some ⟨g,0,none⟩),.string ⟨#[117,110,108,111,99,107]⟩] ax _ from aW [117,110,108,111,99,107] g A n c T k deep ax aX.ps false (gk br.1 br.2.1 _) (λh=>by first|omega|cases h)).mono ?_;rintro e v4 ⟨rfl,S,hF⟩;have bg:=ae (aX.on bC (show aH v4 g A n c T (k) deep from by simpa using S) hF);clear S hF aX;go_wp2_with(fail);refine(show Calls prog 50 #[.pointer (some ⟨g,0,none⟩),.string ⟨#[105,102]⟩] v4 _ from aW [105,102] g A n c T k deep v4 bg.ps false (gk br.1 br.2.1 _) (λh=>by first|omega|cases h)).mono ?_;rintro e aU ⟨rfl,S,hF⟩;have bo:=ae (bg.on bC (show aH aU g A n c T (k) deep from by simpa using S) hF);clear S hF bg;go_wp2_with(fail);refine(show Calls prog 50 #[.pointer (some ⟨g,0,none⟩),.string ⟨#[119,104,105,108,101]⟩] aU _ from aW [119,104,105,108,101] g A n c T k deep aU bo.ps false (gk br.1 br.2.1 _) (λh=>by first|omega|cases h)).mono ?_;rintro e v6 ⟨rfl,S,hF⟩;have aB:=ae (bo.on bC (show aH v6 g A n c T (k) deep from by simpa using S) hF);clear S hF bo;go_wp2_with(fail);refine(show Calls prog 50 #[.pointer (some ⟨g,0,none⟩),.string ⟨#[114,101,116,117,114,110]⟩] v6 _ from aW [114,101,116,117,114,110] g A n c T k deep v6 aB.ps false (gk br.1 br.2.1 _) (λh=>by first|omega|cases h)).mono ?_;rintro e bD ⟨rfl,S,hF⟩;have bF:=ae (aB.on bC (show aH bD g A n c T (k) deep from by simpa using S) hF);clear S hF aB;go_wp2_with(fail);refine(g7 g A n c T k deep bD t bF.ps br.1 br.2.1 ad).mono ?_;rintro e c2 ⟨rfl,S,hF⟩
 have b1:=ae (bF.on bC S hF);clear S hF bF;obtain⟨d0,aQ,aR⟩:=b1.s.two;simp only[ni] at d0;go_upto_region 3 with(fail);generalize hX:World.setCell _ _ _=X;obtain⟨a6,y⟩:=ej 0 [.int .i64 2,.string (strOf t.text)] b1.s hX;have bZ:Kl (rT w X g A n c T (k+1) deep [.int .i64 2,.string (strOf t.text),.int .i64 0,.int .i64 0,.string ⟨#[]⟩,.slice none 0 0,.string ⟨#[]⟩,.slice none 0 0,.slice none 0 0,.slice none 0 0,.slice none 0 0]):=ae (b1.set bC y a6);clear hX a6 y d0 aQ aR b1;go_wp2_with(fail);refine(show Calls prog 48 #[.pointer (some ⟨g,0,none⟩),.string ⟨#[40]⟩] X _ from iX [40] g A n c T (k+1) deep X bZ.ps).mono ?_;rintro e v10 ⟨rfl,ar⟩;rw[br.2.2.1];have aq:=ae (bZ.on bC (bZ.ps.aj ar) (ar.mono λ_ h=>h.elim));clear ar bZ;go_wp2_with(fail);refine(show Calls prog 103 #[.pointer (some ⟨g,0,none⟩),.string ⟨#[61]⟩] v10 _ from eZ [61] g A n c T (k+1) deep v10 aq.ps br.2.2.2.1 ad).mono ?_;rintro e v11 ⟨rfl,S,hF⟩;have a8:=ae (aq.on bC (show aH v11 g A n c T (k+2) deep from S) hF);clear S hF aq;go_wp2_with(fail);refine(kv 5 ad 0 ad g A n c T (k+2) deep v11 x cB a8.ps br.2.2.2.2.1 ad).mono ?_;rintro e z ⟨op,r,os,o,on,P,rfl,aZ,S,hF⟩;have l:=a8.s.lt;have cg:=hF.size;have be:=ae (a8.on bC S hF);have a2:=ae aZ;clear S hF aZ a8;obtain⟨d0,aQ,aR⟩:=be.s.two;go_upto_region 7 with(fail);generalize cm:World.setCell _ _ _=Y;obtain⟨bA,bu⟩:=ej 2 [.int .i64 op,.int .i64 r,.string os,.slice o on P] be.s cm;have bY:=bu.size
 have u:Kl (rT w Y g A n c T cB deep [.int .i64 2,.string (strOf t.text),.int .i64 op,.int .i64 r,.string os,.slice o on P,.string ⟨#[]⟩,.slice none 0 0,.slice none 0 0,.slice none 0 0,.slice none 0 0]):=ae (be.set bC bu bA);have N:=ae (D.aD (λb O=>bu.block b O.2 (aC O.1)) _ _ a2.o);clear cm bA bu d0 aQ aR be a2;go_wp2_with(fail);refine(show Calls prog 103 #[.pointer (some ⟨g,0,none⟩),.string ⟨#[59]⟩] Y _ from eZ [59] g A n c T cB deep Y u.ps br.2.2.2.2.2 ad).mono ?_;rintro e aF ⟨rfl,S,hF⟩;have m:=hF.size;have j:=ae (u.on bC S hF);have s:=ae (D.aD (λb O=>hF.block b (aC O.2) (aC O.1)) _ _ N.o);clear S hF u N;obtain⟨d0,aQ,aR⟩:=j.s.two;obtain⟨bh,an,aM⟩:=j.r.two;go_wp2_with(fail);generalize hX:World.setCell _ _ _=V;obtain⟨b8,a9,i⟩:=hO (M:=λb=>b=g) (w:=w) [.int .i64 2,.string (strOf t.text),.int .i64 op,.int .i64 r,.string os,.slice o on P,.string ⟨#[]⟩,.slice none 0 0,.slice none 0 0,.slice none 0 0,.slice none 0 0] (by rfl) j.r j.fr (JI _) hX;have G:=i.size;have bR:=av (j.ps.on i λb O=>ad) a9 (D.aA (c5:=fresh w V) (λb O=>⟨by have:=O.1;omega,by have:=O.2;omega⟩) _ _ (D.aD (λb O=>i.block b (aC O.2) (aC O.1)) _ _ s.o));clear hX a9 i bh an aM d0 aQ aR;obtain⟨bh,an,aM⟩:=b8.two;refine Ke (v:=.agg ([.int .i64 2,.string (strOf t.text),.int .i64 op,.int .i64 r,.string os,.slice o on P,.string ⟨#[]⟩,.slice none 0 0,.slice none 0 0,.slice none 0 0,.slice none 0 0]:List Value).toArray) (by simp[results,Tryz.results104,go_sem,bh]) rfl ?_
 exact⟨[.int .i64 2,.string (strOf t.text),.int .i64 op,.int .i64 r,.string os,.slice o on P,.string ⟨#[]⟩,.slice none 0 0,.slice none 0 0,.slice none 0 0,.slice none 0 0],rfl,rfl,j6 bR.2.2 rG (Sl.c7 _) (JI _) (Sl.c7 _) (JI _) (Sl.c7 _) (JI _),bR.1,bR.2.1⟩
namespace A0
theorem yZ(h:p:=by
 refine(show Calls prog 50 #[.pointer (some ⟨g,0,none⟩),.string ⟨#[103,111]⟩] v1 _ from aW [103,111] g A n c T k deep v1 ay.ps true (br.1) (λh=>by first|omega|cases h)).mono ?_;rintro e v2 ⟨rfl,S,hF⟩;have aw:=ae (ay.on bC (show aH v2 g A n c T (k+1) deep from by simpa using S) hF);clear S hF ay;go_wp2_with(fail);refine(g7 g A n c T (k+1) deep v2 t aw.ps br.2.1 br.2.2.1 ad).mono ?_;rintro e ax ⟨rfl,S,hF⟩;have aX:=ae (aw.on bC (show aH ax g A n c T (k+2) deep from S) hF);clear S hF aw;obtain⟨d0,aQ,aR⟩:=aX.s.two;simp only[ni] at d0;go_upto_region 15 with(fail);generalize hX:World.setCell _ _ _=X;obtain⟨a6,y⟩:=ej 0 [.int .i64 4,.string (strOf t.text)] aX.s hX;have bg:Kl (rT w X g A n c T (k+2) deep [.int .i64 4,.string (strOf t.text),.int .i64 0,.int .i64 0,.string ⟨#[]⟩,.slice none 0 0,.string ⟨#[]⟩,.slice none 0 0,.slice none 0 0,.slice none 0 0,.slice none 0 0]):=ae (aX.set bC y a6);clear hX a6 y d0 aQ aR aX;go_wp2_with(fail);refine(EH g A n c T (k+2) deep x cB X bg.ps HA.1 HA.2.1 HA.2.2.1 HA.2.2.2.1 HA.2.2.2.2.1 HA.2.2.2.2.2 ad).mono ?_;rintro e aU ⟨D,l,rfl,j,S,hF,bP⟩;have dc:=bg.s.lt;have dj:=hF.size;have bo:=ae (bg.on bC S hF);have bW:=ak j bP;clear S hF bP j bg;obtain⟨d0,aQ,aR⟩:=bo.s.two;go_upto_region 16 with(fail);generalize cm:World.setCell _ _ _=Y;obtain⟨bA,bu⟩:=ej 8 [.slice D 1 l] bo.s cm;have bY:=bu.size
 have aB:Kl (rT w Y g A n c T (cB+1) deep [.int .i64 4,.string (strOf t.text),.int .i64 0,.int .i64 0,.string ⟨#[]⟩,.slice none 0 0,.string ⟨#[]⟩,.slice none 0 0,.slice D 1 l,.slice none 0 0,.slice none 0 0]):=ae (bo.set bC bu bA);have Q:=ae (bW.2.al λb O=>bu.block b O.2 (aC O.1));clear cm bA bu d0 aQ aR bo;go_wp2_with(fail);refine(show Calls prog 103 #[.pointer (some ⟨g,0,none⟩),.string ⟨#[59]⟩] Y _ from eZ [59] g A n c T (cB+1) deep Y aB.ps br.2.2.2 ad).mono ?_;rintro e bD ⟨rfl,S,hF⟩;have dO:=hF.size;have bF:=ae (aB.on bC S hF);have m:=ae (Q.al λb O=>hF.block b (aC O.2) (aC O.1));clear S hF aB Q;obtain⟨d0,aQ,aR⟩:=bF.s.two;obtain⟨bh,an,aM⟩:=bF.r.two;go_wp2_with(fail);generalize hX:World.setCell _ _ _=V;obtain⟨b8,a9,i⟩:=hO (M:=λb=>b=g) (w:=w) [.int .i64 4,.string (strOf t.text),.int .i64 0,.int .i64 0,.string ⟨#[]⟩,.slice none 0 0,.string ⟨#[]⟩,.slice none 0 0,.slice D 1 l,.slice none 0 0,.slice none 0 0] (by rfl) bF.r bF.fr (JI _) hX;have G:=i.size;have bR:=av (bF.ps.on i λb O=>ad) a9 ((m.al λb O=>i.block b (aC O.2) (aC O.1)).mono (c5:=fresh w V) λb O=>⟨by have:=O.1;omega,by have:=O.2;omega⟩);clear hX a9 i bh an aM d0 aQ aR;obtain⟨bh,an,aM⟩:=b8.two;refine Ke (v:=.agg ([.int .i64 4,.string (strOf t.text),.int .i64 0,.int .i64 0,.string ⟨#[]⟩,.slice none 0 0,.string ⟨#[]⟩,.slice none 0 0,.slice D 1 l,.slice none 0 0,.slice none 0 0]:List Value).toArray) (by simp[results,Tryz.results104,go_sem,bh]) rfl ?_
 exact⟨[.int .i64 4,.string (strOf t.text),.int .i64 0,.int .i64 0,.string ⟨#[]⟩,.slice none 0 0,.string ⟨#[]⟩,.slice none 0 0,.slice D 1 l,.slice none 0 0,.slice none 0 0],rfl,rfl,j6 uS rG bR.2.2 bW.1 (Sl.c7 _) (JI _) (Sl.c7 _) (JI _),bR.1,bR.2.1⟩
 ):p:=h
end A0
open A0 in
theorem GO(g:Nat)(A:Kj)(n c:Nat)(T:List Tok)(k deep:Nat)(w:World)(t:Tok)(x:VE)(cB:Nat)(h:aH w g A n c T k deep)(ac:aN [103,111] T k=true)(ht:T[k+1]?=some t)(bx:t.kind=1)(q1:aN [40] T (k+2)=true)(cM:aN [41] T (k+3)=false)(c7:aN [109,117,116,101,120] T (k+3)=false)(O:jO T 5 (k+3)=some (x,cB))(c8:aN [44] T cB=false)(q5:aN [41] T cB=true)(aD:aN [59] T (cB+1)=true)(aj:cB+2<n) :
  Calls prog 104 #[.pointer (some ⟨g,0,none⟩)] w λe J=>∃cs:List Value,cs.length=11/\e=.returned (.agg cs.toArray)/\(cc (.call true (strOf t.text) [.ex x])).rep J (fresh w J) cs/\aH J g A n c T (cB+2) deep/\Fr (λb=>b=g) w J:=by
 have H:=ae h;have cH:=g3 _ _ _ _ O;have br:=b9 ac ht bx aD;have HA:=dq q1 cM c7 O c8 q5;have bC:=h.blk.lt;clear h ht bx ac aD O q1 cM c7 c8 q5;exact yY
end Go.Proofs.YtnigabjngpnbiaaGreat
