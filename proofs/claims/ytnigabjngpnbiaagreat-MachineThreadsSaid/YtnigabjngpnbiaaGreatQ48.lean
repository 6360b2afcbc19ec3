/- Part 48 of the proof. No condition of its own. -/
import Derived.Test.YtnigabjngpnbiaaGreatQ45
import Derived.Test.YtnigabjngpnbiaaGreatQ47
namespace Go.Proofs.YtnigabjngpnbiaaGreat
open Go.RowKit Go.Proofs.Tryz
set_option maxRecDepth 1000000
set_option maxHeartbeats 25600000
set_option linter.unusedVariables false
variable{p:Prop}
def H7:ByteArray:=⟨#[118,97,114,32,103,59,32,102,117,110,99,32,109,97,105,110,40,41,32,123,32,119,104,105,108,101,32,49,32,123,32,103,111,32,102,40,103,41,59,32,103,32,61,32,103,32,43,32,49,59,32,125,32,125,32,102,117,110,99,32,102,40,120,41,32,123,32,119,104,105,108,101,32,120,32,123,32,125,32,125]⟩
def rL:List Tok:=[⟨3,[118,97,114],0,0⟩,⟨1,[103],0,4⟩,⟨4,[59],0,5⟩,⟨3,[102,117,110,99],0,7⟩,⟨1,[109,97,105,110],0,12⟩,⟨4,[40],0,16⟩,⟨4,[41],0,17⟩,⟨4,[123],0,19⟩,⟨3,[119,104,105,108,101],0,21⟩,⟨2,[49],1,27⟩,⟨4,[123],0,29⟩,⟨3,[103,111],0,31⟩,⟨1,[102],0,34⟩,⟨4,[40],0,35⟩,⟨1,[103],0,36⟩,⟨4,[41],0,37⟩,⟨4,[59],0,38⟩,⟨1,[103],0,40⟩,⟨4,[61],0,42⟩,⟨1,[103],0,44⟩,⟨4,[43],0,46⟩,⟨2,[49],1,48⟩,⟨4,[59],0,49⟩,⟨4,[125],0,51⟩,⟨4,[125],0,53⟩,⟨3,[102,117,110,99],0,55⟩,⟨1,[102],0,60⟩,⟨4,[40],0,61⟩,⟨1,[120],0,62⟩,⟨4,[41],0,63⟩,⟨4,[123],0,65⟩,⟨3,[119,104,105,108,101],0,67⟩,⟨1,[120],0,73⟩,⟨4,[123],0,75⟩,⟨4,[125],0,77⟩,⟨4,[125],0,79⟩,⟨5,[],0,80⟩]
def Jv:an:=.fL (.num 1) (.call true (strOf [102]) [.ex (.eP (strOf [103]))] (.set false (strOf [103]) (.bin 8 (.eP (strOf [103])) (.num 1)) .nil)) .nil
def Ju:an:=.fL (.eP (strOf [120])) .nil .nil
def GU:bC:=⟨[((strOf [103]),0)],[],[⟨(strOf [109,97,105,110]),[],Jv⟩,⟨(strOf [102]),[((strOf [120]),false)],Ju⟩]⟩
theorem rM:cd H7.data.toList=(rL,80,0):=by rfl
theorem xA:D0 rL 27 [(strOf [120],false)] 30:=by
 intro g A n c deep w h;refine(xr g A n c rL 27 deep ⟨1,[120],0,62⟩ w h rfl rfl rfl rfl rfl rfl rfl (by have:=h.kH.1;rw[<-this];decide)).mono ?_;rintro e J ⟨D,l,rfl,ac,ap,aD,bt⟩;exact⟨D,1,l,rfl,ac,ap,aD,bt⟩
theorem E1:D0 rL 5 [] 7:=by
 intro g A n c deep w h;refine(oQ g A n c rL 5 deep [] w h ?_ (by have:=h.kH.1;rw[<-this];decide)).mono ?_
 .exact oy (by rfl)
 .rintro e J ⟨bW,m,l,rfl,hm,S,hF,bP⟩;exact⟨bW,m,l,rfl,hm,S,hF,bP⟩
theorem HP:Fa rL 2 11 (.call true (strOf [102]) [.ex (.eP (strOf [103]))]) 17:=by
 intro g A n c w h;exact GO g A n c rL 11 2 w ⟨1,[102],0,34⟩ (.eP (strOf [103])) 15 h rfl rfl rfl rfl rfl rfl rfl rfl rfl rfl (by have:=h.kH.1;rw[<-this];decide)
theorem GV:Fa rL 2 17 (.set false (strOf [103]) (.bin 8 (.eP (strOf [103])) (.num 1))) 23:=
 Fa.assign ⟨1,[103],0,40⟩ (.bin 8 (.eP (strOf [103])) (.num 1)) 22 rfl rfl rfl rfl rfl rfl (by decide)
theorem HQ:rX rL 1 10 [.call true (strOf [102]) [.ex (.eP (strOf [103]))],.set false (strOf [103]) (.bin 8 (.eP (strOf [103])) (.num 1))] 24:=
 kx rL 10 1 _ 24 (by decide) rfl (.cons _ _ _ _ _ rfl HP (by decide) (.cons _ _ _ _ _ rfl GV (by decide) (.nil _ rfl (by decide))))
theorem E0:rX rL 0 7 [.fL (.num 1) (cL [.call true (strOf [102]) [.ex (.eP (strOf [103]))],.set false (strOf [103]) (.bin 8 (.eP (strOf [103])) (.num 1))])] 25:=
 kx rL 7 0 _ 25 (by decide) rfl (.cons _ _ _ _ _ rfl (qt rL 8 1 (.num 1) 10 _ 24 rfl rfl HQ (by decide)) (by decide) (.nil _ rfl (by decide)))
theorem DM:rX rL 1 33 [] 35:=kx rL 33 1 _ 35 (by decide) rfl (.nil _ rfl (by decide))
theorem ID:rX rL 0 30 [.fL (.eP (strOf [120])) (cL [])] 36:=
 kx rL 30 0 _ 36 (by decide) rfl (.cons _ _ _ _ _ rfl (qt rL 31 1 (.eP (strOf [120])) 33 _ 35 rfl rfl DM (by decide)) (by decide) (.nil _ rfl (by decide)))
theorem HO:wP rL 0 GU.globals GU.funcs:=
 .hP 0 ⟨1,[103],0,4⟩ [] _ rfl rfl rfl rfl rfl rfl (by decide) (.Ig 3 ⟨1,[109,97,105,110],0,12⟩ [] _ 7 25 [] _ rfl rfl rfl rfl E1 (by decide) (by decide) E0 (by decide) (.Ig 25 ⟨1,[102],0,60⟩ _ _ 30 36 [] _ rfl rfl rfl rfl xA (by decide) (by decide) ID (by decide) (.nil 36 rfl)))
theorem F6:nE GU:=by
 refine⟨?_,?_,by decide,by decide,by decide,?_,?_,?_,⟨0,_,rfl,rfl,rfl⟩,by decide⟩
 .decide
 .decide
 .decide
 .decide
 .intro f aA;simp only[GU,JY,List.not_mem_nil,or_false] at aA;rcases aA with rfl|rfl
  .refine⟨by decide,by decide,by decide,?_⟩;exact⟨⟨by decide,by decide⟩,⟨⟨[(strOf [120],false)],.tail _ (.head _),⟨rfl,List.Mem.head _⟩,trivial⟩,List.Mem.head _,⟨⟨by decide,by decide⟩,List.Mem.head _,⟨by decide,by decide⟩⟩,trivial⟩,trivial⟩
  .refine⟨by decide,by decide,by decide,?_⟩;exact⟨List.Mem.tail _ (List.Mem.head _),trivial,trivial⟩
def rW:ay:=hY GU
theorem mE:xX rW:=⟨wg F6,wh GU⟩
namespace B3
theorem zY(h:p:=by
 have g:fU X (ao X) p MA mn none 0 FA fn:=by
  have aj:∀b,fresh V.drew aL b->X.heap[b]?=aL.heap[b]?:=λb O=>bf.block b O.2 λh=>h;have hm:∀b,fresh V.drew aL b->ao X b:=λb O=>JJ O.2 bf.size;refine⟨(H1.1.g.al aj).mono hm,?_,(H1.1.f.al aj).mono hm⟩;rw[H.2.2.2.2.1];exact Sl.c7 _
 have aJ:=ak g (H1.2.trans bf);obtain⟨bl,U,aE⟩:=a6.two;clear hX bf a6 g;go_wp2_with(fail);refine(Dc p H.2.2.2.2.2 MA mn mc none 0 0 FA fn fc X aJ.1).mono ?_;exact Fl
 ):p:=h
theorem y3(h:p:=by
 refine(uI s W.heap.size 0 cap V.drew p.globals p.funcs (bR.1.on Kf.drew) hs H.1 H.2.1 H.2.2.1 H.2.2.2.1 H.2.2.2.2.2.lN (aC H.2.2.2.2.2.xl)).mono ?_;exact zX
 ):p:=h
end B3
open B3 in
theorem HT(s:ByteArray)(p:bC)(w:World)(hs:s.size<=4000)(hn:(cd s.data.toList).1.length<=4001)(ai:0<(cd s.data.toList).1.length)(he:(cd s.data.toList).2.2=0)(hp:wP (cd s.data.toList).1 0 p.globals p.funcs)(aS:p.af=[])(hw:nE p) :
  Calls prog 5 #[.string s] w λe J=>∃q:UV,e=.returned (.agg (q.val (hY p)))/\q.Ok J (hY p)/\Ext w J:=by
 exact y2
theorem HU(w:World):Calls prog 5 #[.string H7] w λe J=>∃q:UV,e=.returned (.agg (q.val rW))/\q.Ok J rW/\Ext w J:=
 HT H7 GU w (by decide) (by rw[rM];decide) (by rw[rM];decide) (by rw[rM]) (by rw[rM];exact HO) rfl F6
def l0(n:Nat):ah:=ju rW (dI rW) (List.replicate n 0)
theorem DK(n:Nat):aV rW n (l0 n):=by
 have:=uX mE.ok (List.replicate n 0) 0 (dI rW) (nw mE.ok);rw[List.length_replicate,J0] at this;exact this
theorem DL(n:Nat):l0 (n+1)=(bM rW (l0 n) 0).1:=by
 unfold l0;rw[List.replicate_succ',xx]
theorem vk:∀m<40,32<=m->(l0 (4*m+1)).fault=4:=by decide +kernel
namespace Cg
theorem gO(h:p:=by
 refine tf ?_;refine cY ?_;generalize aI:World.setCell _ _ _=Z;obtain⟨bq,a5,a4⟩:=bk (w:=wr) [.slice aZ aW aS,.slice bI aG z,.slice bK ah r,.int .i64 (l0 i).fault] (by rfl) j aA dA aI;have g:(⟨aZ,aW,aS,bI,aG,z,bK,ah,r⟩:SV).Is Z (λb=>wr.heap.size<=b/\b<Z.heap.size/\b≠L) (l0 i):=(aN.al λb O=>a4.block b O.2.1 O.2.2).mono λb O=>⟨O.1,by have:=a4.size;have:=O.2.1;omega,O.2.2⟩
 have bn:=av g a5 bq;obtain⟨a3,s,an⟩:=bq.two;obtain⟨am,m,o⟩:=(br.2.1.aj a5).two;have b2:=DK i;have T:=b2.small mE.ok ad;have aT:=ae T;have bv:hn<=32:=by
  have ac:=br.1.at_.h.1;have ap:=b2.xB.2;simp only[JM] at ac;omega
 have aw:(hn:Int)<=32:=ad;clear aI bq a5 a4 g j aA dA aN cD aQ aR b2 T bv;go_wp2_with(fail);refine(HM (l0 i) (l0 i) ⟨bP,cg,bQ,TA,tn,tc,HA,hn,ck⟩ ⟨aZ,aW,aS,bI,aG,z,bK,ah,r⟩ Z ((br.1.ok λb O=>O.2.2).on bn.2.1) (bn.1.ok λb O=>O.2.1) aT.o).mono ?_;rintro e aU ⟨bb,rfl,H,b5⟩;obtain rfl:bb=true:=H.2 rfl;have cX:=ae b5;clear H a3 s an am m o;obtain⟨am,m,o⟩:=(br.2.1.aj (bn.2.1.trans b5)).two;have l4:=(H1.2).size;have jP:Ext w aU:=(aJ.2.1.trans bd.1).trans (bn.2.1.trans b5);have u:=ae jP;clear b5 jP;by_cases cl:i<128
 .have a9:(i:Int)<128:=ad;exact x0
 .have a9:¬(i:Int)<128:=ad;have ay:=bN.resolve_left cl;rw[ay] at am;clear ay;exact x0
 ):p:=h
end Cg
open Cg in
theorem machineThreads_any(n:Int)(w:World) :
  Calls prog 3 #[.int .i64 n] w λe J=>e=.returned (.bool true)/\Below w.heap.size w J:=by
 go_enter func3,ntmps3;go_wp2_with(fail);refine(show Calls prog 5 #[.string H7] w _ from HU w).mono ?_;rintro e aL ⟨⟨GA,gn,gc,MA,mn,mc,PA,pn,pc⟩,rfl,hu,ag⟩;have H1:=ak hu ag;clear hu ag;dsimp only[UV.val];go_upto_region 2 with(fail);generalize hX:World.alloc _ _=X;have bf:=aY hX;have a6:=aF hX;have aJ:=av (H1.1.on bf) (H1.2.trans bf) a6;have dX:=a6.lt;obtain⟨bl,U,aE⟩:=a6.two;clear hX bf a6;go_wp2_with(fail);refine(GI rW X (⟨GA,gn,gc,MA,mn,mc,PA,pn,pc⟩:UV) mE aJ.1).mono ?_;rintro e aV ⟨⟨bP,cg,bQ,TA,tn,tc,HA,hn,ck⟩,rfl,aD,aO⟩;have bx:=aD.mono (c5:=λb=>X.heap.size<=b/\b<aV.heap.size) λb O=>O.resolve_left λh=>h;have bO:=ak bx aO;have bz:=aO.size;clear aD bx aO bl U aE;dsimp only[SV.val];go_upto_region 3 with(fail);generalize cm:World.alloc _ _=Y;have ce:=aY cm;have bA:=aF cm;have cO:=bA.lt;have bw:=av ((bO.1.al λb O=>ce.block b O.2 λh=>h).mono (c5:=λb=>b≠aL.heap.size/\b≠aV.heap.size/\b<Y.heap.size) λb O=>⟨ad,ad,ad⟩) (bO.2.trans ce) bA;clear cm ce bA;go_wp2_with(fail);refine(vx n 40 ad ad _).mono ?_;rintro e J ⟨rfl,rfl⟩;have ah:=rQ (x:=n) (n:=40) ad;generalize within n 40=cz at *;obtain⟨bu,rfl⟩:∃bu:Nat,cz=bu:=⟨cz.toNat,ad⟩
 have y:bu<40:=ad;clear ah;have b3:(4*bu+1:Nat)<128\/(l0 (4*bu+1)).fault=4:=by
  by_cases h:bu<32
  .exact .inl ad
  .exact .inr (vk bu y ad)
 have al:4*bu+1<=1000:=ad;go_upto_region 4 with(fail);have E:4*(bu:Int)+1=((4*bu+1:Nat):Int):=ad;rw[E];generalize 4*bu+1=N at *;have bN:=ae b3;clear b3 E y;go_wp2_with(fail);go_loopw [5] (λcr wr=>∃(i:Nat) (q:SV),cr=.int .i64 i/\i<=N/\q.Is wr (λb=>b≠aL.heap.size/\b≠aV.heap.size/\b<wr.heap.size) (l0 i)/\Fr (λb=>b=aV.heap.size) Y wr/\au wr aV.heap.size 31 #[.slice q.GA q.gn q.gc,.slice q.TA q.tn q.tc,.slice q.HA q.hn q.hc,.int .i64 (l0 i).fault]) (λcr _=>N - (intOf cr).toNat)
 case atStart=>exact⟨0,⟨bP,cg,bQ,TA,tn,tc,HA,hn,ck⟩,rfl,ad,bw.1,Kf,bw.2.2⟩
 case round=>
  obtain⟨i,⟨bP,cg,bQ,TA,tn,tc,HA,hn,ck⟩,rfl,I,bx,hF,aK⟩:=hrel;have dR:=hF.size;have ar:Ext X wr:=Fr.low (M:=λb=>b=aV.heap.size) ((bw.2.1.mono λ_ h=>h.elim).trans hF) λb O=>ad;have cK:=aJ.2.2.aj ar;have cx:=ae (aJ.1.on ar);have bd:=ak ar hF;obtain⟨bl,U,aE⟩:=cK.two;obtain⟨am,m,o⟩:=aK.two;have br:=av bx aK cK;clear bx hF aK ar cK;by_cases aq:i<N
  .have G:(i:Int)<(N:Int):=ad;have ch:=Dh rW (l0 i) 0 i wr (⟨GA,gn,gc,MA,mn,mc,PA,pn,pc⟩:UV) ⟨bP,cg,bQ,TA,tn,tc,HA,hn,ck⟩ mE (DK i) ad cx.o (br.1.ok λb O=>O.2.2);rw[<-DL] at ch;generalize (bM rW (l0 i) 0).2=bb at ch;have S:=ae ch;clear ch;go_wp2_with(fail);refine S.mono ?_;rintro e cy ⟨⟨bm,sm,a1,bW,bc,a8,bL,hm,hd⟩,rfl,aP,b5⟩;have dj:=b5.size;have b7:=br.2.1.aj b5;have aj:=aP.mono (c5:=λb=>wr.heap.size<=b/\b<cy.heap.size) λb O=>O.resolve_left λh=>h;have cX:=av aj b5 b7;clear am m o bl U aE;obtain⟨am,m,o⟩:=b7.two;clear aP b5 b7 aj;dsimp only[SV.val];go_wp2_with(fail);generalize aI:World.setCell _ _ _=Z;obtain⟨bq,a4⟩:=ej 0 [.slice bm sm a1,.slice bW bc a8,.slice bL hm hd,.int .i64 (l0 (i+1)).fault] cX.2.2 aI;have bH:=a4.size;have g:=(cX.1.al λb O=>a4.block b O.2 ad).mono (c5:=λb=>b≠aL.heap.size/\b≠aV.heap.size/\b<Z.heap.size) λb O=>⟨ad,ad,ad⟩
   have c3:=(bd.2.trans (cX.2.1.mono λ_ h=>h.elim)).trans a4;have bn:=av g c3 bq;clear aI bq a4 g c3 am m o;go_roundw
   case rel=>exact⟨i+1,⟨bm,sm,a1,bW,bc,a8,bL,hm,hd⟩,by go_num,ad,bn.1,bn.2.1,bn.2.2⟩
   case measure=>simp[intOf]<;>omega
  .have G:¬(i:Int)<(N:Int):=ad;obtain rfl:i=N:=ad;clear aq I;go_upto_region 8 with(fail);have a2:Kl (∀(B:Kj) (k d:Nat) (V:World),(⟨GA,gn,gc,MA,mn,mc,PA,pn,pc⟩:UV).Ok V rW->cB (EF dr) 1 V V.heap.size B k (List.replicate i 0)->Calls prog 9 #[.agg ((⟨GA,gn,gc,MA,mn,mc,PA,pn,pc⟩:UV).val rW),.slice B k d] V (xT V (l0 i) (iC rW (dI rW) (List.replicate i 0)).length)):=ae λB k d V ac ap=>IB rW (List.replicate i 0) B k d V (⟨GA,gn,gc,MA,mn,mc,PA,pn,pc⟩:UV) mE ac ap (by have:=ap.1;rw[List.length_replicate] at this;omega);generalize (iC rW (dI rW) (List.replicate i 0)).length=aC at a2;have af:=λW=>run_mk (P:=prog) eK .i64 .i64 i ad ad W;have D:Kl (∀W:World,cB (EF dr) 1 (W.alloc (.cells (madeCells #[.int .i64 0] i) 3)) (W.alloc (.cells (madeCells #[.int .i64 0] i) 3)).heap.size (some ⟨W.heap.size,0,none⟩) i (List.replicate i 0)):=ae λW=>by simpa only[Nat.mul_one] using iV (f:=dr) (rC (e:=3) (f:=dr) (x:=0) (zc:=#[.int .i64 0]) (sz:=1) rfl rfl ad i ad (w:=W) (base:=W.heap.size) (JI _)) (iP _) List.length_replicate
   dsimp only[UV.val] at a2;refine uU (λ_=>False) [8] (.held 0 (.free 1 (.pick [2,7] (λi=>bif i == 2 then .pick [3,7] (λi=>bif i == 3 then .free 4 (.free 5 (.free 6 (.pick [7] (λ_=>.pick [8] (λ_=>.free 9 (.stop)))))) else .pick [3] (λ_=>.free 4 (.free 5 (.free 6 (.pick [8] (λ_=>.free 9 (.stop))))))) else .pick [2] (λ_=>.pick [3] (λ_=>.free 4 (.free 5 (.free 6 (.pick [8] (λ_=>.free 9 (.stop))))))))))) ?_;refine th ?_;refine tf ?_;refine po (P:=?rZ) (ops:=?HZ) (Q:=?H3) (R:=?H4) (tails:=?H6) (rest:=.pick [8] (λ_=>.free 9 (.stop))) (aa:=?HW)
    (C:=λ(L:Nat) (v:Value) (Y:Value) ai=>Ext wr ai/\au ai L 31 #[.slice none 0 0,.slice none 0 0,.slice none 0 0,.int .i64 0]/\wr.heap.size<=L/\∃ao:SV,Y=.agg (ao.val (l0 i))/\ao.Is ai (λb=>wr.heap.size<=b/\b<ai.heap.size/\b≠L) (l0 i)) (λkey=>?Ev) ?Es
   case Ev=>
    refine b1 ?_ ?_
    ·
     refine gX ?_;generalize aH:World.drew (World.alloc _ _)=v2;have bZ:cB (EF dr) 1 v2 v2.heap.size (some ⟨wr.heap.size,0,none⟩) i (List.replicate i 0):=aH▸D.o wr;have aO:=jW aH;clear aH;generalize (some (⟨wr.heap.size,0,none⟩:Addr))=bg at bZ ⊢;refine b1 ?_ ?_
     ·
      refine bD rfl (λK hK=>?_) rfl;go_simp;refine(a2.o bg i i v2 (cx.on aO) bZ).mono ?_;rintro e ax ⟨ao,rfl,az,a7⟩;refine gu hK (a7) ?_;clear hK K
      iterate 3 refine tf ?_
      refine aB ?_;refine gX ?_;generalize aI:World.alloc _ _=Z;have e2:=aY aI;have aK:=aF aI;have s2:=aO.size;have bs:=a7.size;have ew:=e2.size;have hd:wr.drew.heap.size=wr.heap.size:=rfl;have F:Ext wr Z/\au Z ax.heap.size 31 #[.slice none 0 0,.slice none 0 0,.slice none 0 0,.int .i64 0]/\wr.heap.size<=ax.heap.size/\∃cM:SV,(Value.agg (ao.val (l0 i)))=.agg (cM.val (l0 i))/\cM.Is Z (λb=>wr.heap.size<=b/\b<Z.heap.size/\b≠ax.heap.size) (l0 i):=⟨(aO.trans a7).trans e2,aK,ad,ao,rfl,(az.al λb O=>e2.block b O.2 λh=>h).mono λb O=>ad⟩
      clear aI e2 aK az a7 aO s2 bs ew hd bZ;revert F;generalize ax.heap.size=L;exact yg
     ·
      refine gX ?_;generalize aI:World.alloc _ _=Z;have e2:=aY aI;have aK:=aF aI;refine aB ?_;refine bD rfl (λK hK=>?_) rfl;go_simp;refine(a2.o bg i i Z (cx.on (aO.trans e2)) (bZ.eQ e2.ext e2.size)).mono ?_;rintro e v4 ⟨ao,rfl,az,a7⟩;refine gu hK (a7) ?_;clear hK K
      iterate 3 refine tf ?_
      have s2:=aO.size;have bs:=a7.size;have ew:=aK.lt;have hd:wr.drew.heap.size=wr.heap.size:=rfl;have F:Ext wr v4/\au v4 v2.heap.size 31 #[.slice none 0 0,.slice none 0 0,.slice none 0 0,.int .i64 0]/\wr.heap.size<=v2.heap.size/\∃cM:SV,(Value.agg (ao.val (l0 i)))=.agg (cM.val (l0 i))/\cM.Is v4 (λb=>wr.heap.size<=b/\b<v4.heap.size/\b≠v2.heap.size) (l0 i):=⟨(aO.trans e2).trans a7,aK.aj a7,ad,ao,rfl,az.mono λb O=>ad⟩
      clear aI e2 aK az a7 aO s2 bs ew hd bZ;revert F;generalize v2.heap.size=L;exact yg
    ·
     refine gX ?_;generalize aI:World.drew (World.alloc _ _)=Z;have e2:=jW aI;have aK:=vF aI;refine aB ?_;refine gX ?_;generalize aH:World.alloc _ _=v2;have bZ:cB (EF dr) 1 v2 v2.heap.size (some ⟨Z.heap.size,0,none⟩) i (List.replicate i 0):=aH▸D.o Z;have aO:=aY aH;clear aH;generalize (some (⟨Z.heap.size,0,none⟩:Addr))=bg at bZ ⊢;refine aB ?_;refine bD rfl (λK hK=>?_) rfl;go_simp;refine(a2.o bg i i v2 (cx.on (e2.trans aO)) bZ).mono ?_;rintro e ax ⟨ao,rfl,az,a7⟩;refine gu hK (a7) ?_;clear hK K
     iterate 3 refine tf ?_
     have s2:=aO.size;have bs:=a7.size;have ew:=aK.lt;have F:Ext wr ax/\au ax wr.heap.size 31 #[.slice none 0 0,.slice none 0 0,.slice none 0 0,.int .i64 0]/\wr.heap.size<=wr.heap.size/\∃cM:SV,(Value.agg (ao.val (l0 i)))=.agg (cM.val (l0 i))/\cM.Is ax (λb=>wr.heap.size<=b/\b<ax.heap.size/\b≠wr.heap.size) (l0 i):=⟨(e2.trans aO).trans a7,(aK.aj aO).aj a7,JI _,ao,rfl,az.mono λb O=>ad⟩
     clear aI e2 aK az a7 aO s2 bs ew bZ;revert F key;generalize (Value.agg (ao.val (l0 i)))=Y;generalize (Value.slice bg i i)=v;intro key F;exact key wr.heap.size v Y _ F
   case Es=>
    rintro L v Y ai ⟨aA,j,dA,⟨aZ,aW,aS,bI,aG,z,bK,ah,r⟩,rfl,aN⟩;dsimp only[SV.val];obtain⟨cD,aQ,aR⟩:=j.two;clear bl U aE;exact gN
end Go.Proofs.YtnigabjngpnbiaaGreat
