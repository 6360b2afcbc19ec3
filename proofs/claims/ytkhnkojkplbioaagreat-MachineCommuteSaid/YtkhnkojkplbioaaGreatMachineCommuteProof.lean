/- The law MachineCommute returns true for every input, and each argument reads afterwards as it read before. No condition. -/
import Derived.Test.YtkhnkojkplbioaaGreatRows
import Derived.WalkKit
import Derived.ProofKit
import Derived.OpenShut
import Derived.ShutString
import Derived.ChangeOld
import Derived.Below
import Derived.Test.YtkhnkojkplbioaaGreatQ45
namespace Go.Proofs.YtkhnkojkplbioaaGreat
open Go.RowKit Go.Proofs.Tryz
set_option maxRecDepth 1000000
set_option maxHeartbeats 25600000
set_option linter.unusedVariables false
variable{a b t:Int}{α:Type}{Q s:ai}{f:ak}{u:ay}{x:az}
def n9(x:az):Bool:=x.op == 7 || (x.op == 8 || (x.op == 6 || (x.op == 2 || (x.op == 1 && !x.c7))))
theorem uo(h:Q.globals=s.globals)(f:ak)(p:bN):bo u Q f p=bo u s f p:=by
 unfold bo cK;rw[h]
theorem mS{u:ay}{s Q:ai}(h:Q.globals=s.globals)(f:ak):∀ps:List bN,bL u Q f ps=bL u s f ps
 | []=>rfl
 | p::ps=>by simp only[bL,uo h,mS h f ps]
theorem wR(l:List α)(k:Nat)(g h:α->α):(l.modify k g).modify k h=l.modify k (λx=>h (g x)):=by
 apply List.ext_getElem?
 intro i;simp only[List.getElem?_modify]
 cases l[i]? with
 | none=>rfl
 | some x=>by_cases e:k=i<;>simp[e]
theorem uN(l:List α){i j:Nat}(bf:i≠j)(g h:α->α):(l.modify i g).modify j h=(l.modify j h).modify i g:=by
 apply List.ext_getElem?
 intro k;simp only[List.getElem?_modify]
 cases l[k]? with
 | none=>rfl
 | some x=>
  by_cases e:i=k
  .have e2:¬j=k:=ad;simp[e,e2]
  .by_cases e2:j=k<;>simp[e,e2]
theorem oA(f:ak)(x:az)(hx:n9 x=true):∃(e:Int) (g:List ak->List ak),∀(Q:ai) (t:Int),Q.globals=s.globals->
  bI u Q t f x=if e≠0 then ({Q with fault:=e},true) else ({Q with threads:=Q.threads.modify t.toNat g},true):=by
 simp only[n9,Bool.or_eq_true,beq_iff_eq,Lw,Bool.not_eq_true'] at hx;rcases hx with h|h|h|h|⟨h,a9⟩
 .exact⟨0,λfs=>fs.dropLast++[{f with pc:=x.target}],λQ t _=>by simp[bI,h,aT]⟩
 .exact⟨0,List.dropLast,λQ t _=>by simp[bI,h,qJ]⟩
 .refine⟨(ev s.globals f.ints (x.expr.getD (.num 0))).2,λfs=>fs.dropLast++[if (ev s.globals f.ints (x.expr.getD (.num 0))).1=0 then {f with pc:=x.target} else next f],λQ t hs=>?_⟩;simp only[bI,h,hs];simp[aT,hs]
 .refine⟨bX (cC s.globals f.ints x.ints).2 (bL u s f x.places).2 false,λfs=>(fs.dropLast++[next f])++[cY u x.target (cC s.globals f.ints x.ints).1 (bL u s f x.places).1],λQ t hs=>?_⟩;simp only[bI,h,hs,mS hs];simp[aT,kM,wR,hs]
 .refine⟨(ev s.globals f.ints (x.expr.getD (.num 0))).2,λfs=>fs.dropLast++[{next f with ints:=f.ints.set x.target.toNat (ev s.globals f.ints (x.expr.getD (.num 0))).1}],λQ t hs=>?_⟩;simp only[bI,h,hs,a9];simp[aT,hs]
theorem oC(C:0<=b)(c:0<=a)(bf:a≠b)(g:List ak->List ak):de {s with threads:=s.threads.modify a.toNat g} b=de s b:=by
 unfold de;have h:¬a.toNat=b.toNat:=ad;simp[h]
theorem na(h:de s t=some f)(hx:cU u s t=some x):aV u s t=bI u s t f x:=by
 unfold aV;rw[h,hx]
theorem mQ(h:de Q t=de s t):cU u Q t=cU u s t:=by unfold cU;rw[h]
theorem rD{k:ak}{y:az}(bz:de s a=some f)(hx:cU u s a=some x)(O:de s b=some k)(bb:cU u s b=some y)
  (i:n9 x=true) (j:n9 y=true) (bf:a≠b) :
  ((aV u (aV u s a).1 b).1.fault≠0/\(aV u (aV u s b).1 a).1.fault≠0)\/(aV u (aV u s a).1 b).1=(aV u (aV u s b).1 a).1:=by
 obtain⟨e,g,ac⟩:=oA (u:=u) (s:=s) f x i;obtain⟨d,h,au⟩:=oA (u:=u) (s:=s) k y j;have a0:=(gy bz).2.1;have a7:=(gy O).2.1;rw[na bz hx,na O bb,ac s a rfl,au s b rfl];have aX:=oC (s:=s) a7 a0 bf g;have aR:=oC (s:=s) a0 a7 (Ne.symm bf) h;have c:aV u {s with threads:=s.threads.modify a.toNat g} b=bI u {s with threads:=s.threads.modify a.toNat g} b k y:=na (aX.trans O) ((mQ aX).trans bb);have bt:aV u {s with threads:=s.threads.modify b.toNat h} a=bI u {s with threads:=s.threads.modify b.toNat h} a f x:=na (aR.trans bz) ((mQ aR).trans hx);by_cases he:e=0<;>by_cases hd:d=0
 .right;simp only[he,hd,ne_eq,not_true_eq_false,if_false];rw[c,bt,au {s with threads:=s.threads.modify a.toNat g} b rfl,ac {s with threads:=s.threads.modify b.toNat h} a rfl];simp only[he,hd,ne_eq,not_true_eq_false,if_false];rw[uN _ ad]
 .left;simp only[he,hd,ne_eq,not_true_eq_false,not_false_eq_true,if_false,if_true];rw[c,au {s with threads:=s.threads.modify a.toNat g} b rfl,jf (s:={s with fault:=d}) hd];simp[hd]
 .left;simp only[he,hd,ne_eq,not_true_eq_false,not_false_eq_true,if_false,if_true];rw[bt,ac {s with threads:=s.threads.modify b.toNat h} a rfl,jf (s:={s with fault:=e}) he];simp[he]
 .left;simp only[he,hd,ne_eq,not_false_eq_true,if_true];rw[jf (s:={s with fault:=e}) he,jf (s:={s with fault:=d}) hd];exact⟨he,hd⟩
theorem ui(v:IV)(x:az)(w:World):Calls prog 32 #[.agg (v.val x)] w λe ab=>e=.returned (.bool (n9 x))/\Ext w ab:=by
 obtain⟨eo,en,es,EA,em,ec,QA,qm,qc,dg,j,dc,KA,dj,kc⟩:=v;have bA:n9 x=(x.op == 7 || (x.op == 8 || (x.op == 6 || (x.op == 2 || (x.op == 1 && !x.c7))))):=rfl;dsimp only[IV.val];rw[bA];clear bA;generalize x.op=o;generalize x.c7=g;go_enter func32,ntmps32;go_upto_region 1 with(fail);generalize be:World.alloc _ _=W;have aw:=aW be;have aR:=aI be;obtain⟨a7,am,aF⟩:=aR.two;have bo:=ae aw;clear be aw aR;cases q7:(o == 7)
 case true=>go_wp2_with(fail);go_ret;exact⟨by simp_all,bo.o⟩
 cases dF:(o == 8)
 case true=>go_wp2_with(fail);go_ret;exact⟨by simp_all,bo.o⟩
 cases dk:(o == 6)
 case true=>go_wp2_with(fail);go_ret;exact⟨by simp_all,bo.o⟩
 cases cN:(o == 2)
 case true=>go_wp2_with(fail);go_ret;exact⟨by simp_all,bo.o⟩
 cases q1:(o == 1)
 case false=>go_wp2_with(fail);go_ret;exact⟨by simp_all,bo.o⟩
 cases g<;>(go_wp2_with(fail);go_ret;exact⟨by simp_all,bo.o⟩)
theorem qR(u:ay)(s:ai)(t:Int)(N:Nat)(w:World)(p:UV)(q:SV)(hU:tV u)(hS:aX u N s)(hN:N<=1000)(hu:p.Ok w u)(bA:q.Ok w s) :
  Calls prog 26 #[.agg (p.val u),.agg (q.val s),.int .i64 t] w λe ab=>
   ∃(x:az) (v:IV) (ok:Bool),e=.returned (.tuple #[.agg (v.val x),.bool ok])/\(ok=true->∃f,de s t=some f/\cU u s t=some x)/\Ext w ab:=by
 cases htop:de s t with
 | none=>exact(ow u s t w p q bA htop).mono λe ab h=>⟨⟨0,0,false,none,⟨false,0,none⟩,[],[]⟩,⟨0,0,⟨#[]⟩,none,0,0,none,0,0,none,0,0,none,0,0⟩,false,h.1,λh=>by (cases h),h.2⟩
 | some f=>
  obtain⟨cn,x,i,G⟩:=jv.of hU hS ad htop;have an:HE u s t f cn x w p q:=⟨i.sm,i.ht,i.hp,i.hx,i.hF.proc,i.pc.1,i.il,i.kl,hu,bA⟩
  exact(ox u s t f cn x w p q an).mono λe ab ⟨v,h,_,he⟩=>⟨_,_,true,h,λ_=>⟨f,rfl,G⟩,he⟩
namespace DE
theorem Au{p:Prop}(h:p:=by
 obtain⟨bx,a5,aT⟩:=bO.1.two;obtain⟨b2,ai,N⟩:=bO.2.two;clear cu bt bK cd;refine eC (λ_=>False) [(0,0),(1,3),(3,0),(4,3),(2,1),(5,1),(6,3),(7,3)] ?_;refine ph ?_;refine pf ?_;refine ph ?_;refine pf ?_;refine aG rfl (λK hK=>?_);go_simp;refine(mr ⟨bU,bW,bE,TA,tn,tc,HA,hn,ca⟩ S z Y.drew (bu.2.1.on (Fr.refl _ Y).drew) aA aB).mono ?_;rintro e b6 ⟨rfl,a4⟩;have bP:=ae (Fr.aF a4);refine dq hK (a4) ?_;clear hK K;clear a4;refine aG rfl (λK hK=>?_);go_simp;refine(mr ⟨bU,bW,bE,TA,tn,tc,HA,hn,ca⟩ S a8 b6 (bu.2.1.on bP.o) aA aB).mono ?_;rintro e cK ⟨rfl,co⟩;have b5:=ae (bP.trans co);refine dq hK (co) ?_;clear hK K;clear co bx a5 aT b2 ai N
 iterate 2 refine pf ?_
 refine aC ?_;generalize within z hn=a at *;generalize within a8 hn=b at *;obtain⟨bx,a5,aT⟩:=(bO.1.aj b5.o).two;obtain⟨b2,ai,N⟩:=(bO.2.aj b5.o).two;go_wp2_with(fail);refine(qR u S a 60 cK ⟨GA,gn,gc,MA,mn,mc,PA,pn,pc⟩ ⟨bU,bW,bE,TA,tn,tc,HA,hn,ca⟩ H1.1 bc.2.2.1 ad (bu.1.on b5.o) (bu.2.1.on b5.o)).mono ?_;rintro e c7 ⟨x,⟨bZ,bV,b8,a9,bR,bN,bB,cE,cA,bk,c5,cf,bl,cm,cj⟩,an,rfl,db,b0⟩;have bh:=ae db;dsimp only[IV.val];clear bx a5 aT b2 ai N db;go_upto_region 5 with(fail);generalize hV:World.alloc _ _=bG;have bm:Ext cK bG:=hV▸b0.alloc _;have b7:=aI hV;have bq:=aE ((b5.o).trans bm) bm b7;clear hV bm b7 b0;obtain⟨bx,a5,aT⟩:=(bO.1.aj bq.1).two;obtain⟨b2,ai,N⟩:=(bO.2.aj bq.1).two;go_wp2_with(fail);refine(qR u S b 60 bG ⟨GA,gn,gc,MA,mn,mc,PA,pn,pc⟩ ⟨bU,bW,bE,TA,tn,tc,HA,hn,ca⟩ H1.1 bc.2.2.1 ad (bu.1.on bq.1) (bu.2.1.on bq.1)).mono ?_;rintro e cS ⟨y,⟨b3,bX,b9,bd,bS,bQ,bC,cG,cD,c0,L,ci,bn,cn,cl⟩,av,rfl,a1,b0⟩;have bi:=ae a1;dsimp only[IV.val];clear bx a5 aT b2 ai N a1;go_upto_region 6 with(fail);generalize hV:World.alloc _ _=dx;have bm:Ext bG dx:=hV▸b0.alloc _;have b7:=aI hV;have i:=aE ((bq.1).trans bm) bm b7;clear hV bm b7 b0;obtain⟨bx,a5,aT⟩:=(bO.1.aj i.1).two;obtain⟨b2,ai,N⟩:=(bO.2.aj i.1).two;have G:=bq.2.2.aj i.2.1;have ck:=ag G i.2.2;obtain⟨i0,cb,ce⟩:=G.two;obtain⟨c8,dp,ds⟩:=i.2.2.two;clear G;have q:∀V,Ext Y V->Calls prog 22 #[] V λe ab=>e=.returned (.bool true)/\Below w.heap.size w ab:=λV hV=>(DV V).mono λe ab h=>⟨h.1,Fr.ext ((bu.2.2.trans hV).trans h.2)⟩
 have bY:=ae q;clear q;cases an
 case false=>
  exact DN
 cases av
 case false=>
  exact DN
 by_cases ay:a=b
 case pos=>
  have q1:(a == b)=true:=by simpa using ay
  clear ay;exact DN
 have q1:(a == b)=false:=by simpa using ay
 have bg:=ae ay;clear ay;go_wp2_with(fail);refine(ui ⟨bZ,bV,b8,a9,bR,bN,bB,cE,cA,bk,c5,cf,bl,cm,cj⟩ x dx).mono ?_;rintro e fn ⟨rfl,aP⟩;have M:=ag (i.1.trans aP) aP;clear aP i0 cb ce c8 dp ds bx a5 aT b2 ai N;cases U:n9 x
 case false=>
  go_wp2_with(fail);refine(bY.o fn M.1).mono ?_;rintro e gR ⟨rfl,bj⟩;go_wp2_with(fail);go_ret;exact⟨rfl,bj⟩
 obtain⟨c8,dp,ds⟩:=(ck.2.aj M.2).two;go_wp2_with(fail);refine(ui ⟨b3,bX,b9,bd,bS,bQ,bC,cG,cD,c0,L,ci,bn,cn,cl⟩ y fn).mono ?_;rintro e gR ⟨rfl,bj⟩;have cB:=ae (M.1.trans bj);clear bj c8 dp ds;cases hcy:n9 y
 case false=>
  go_wp2_with(fail);refine(bY.o gR cB.o).mono ?_;rintro e hT ⟨rfl,ct⟩;go_wp2_with(fail);go_ret;exact⟨rfl,ct⟩
 have I:((aV u (aV u S a).1 b).1.fault≠0/\(aV u (aV u S b).1 a).1.fault≠0)\/(aV u (aV u S a).1 b).1=(aV u (aV u S b).1 a).1:=by
  obtain⟨f,J,hx⟩:=bh.o (by trivial);obtain⟨k,ap,bb⟩:=bi.o (by trivial);exact rD J hx ap bb U hcy bg.o
 have o:=ae I;clear I U hcy;obtain⟨bx,a5,aT⟩:=(bO.1.aj cB.o).two;obtain⟨b2,ai,N⟩:=(bO.2.aj cB.o).two;go_wp2_with(fail);have ch:=qv u S a 60 gR ⟨GA,gn,gc,MA,mn,mc,PA,pn,pc⟩ ⟨bU,bW,bE,TA,tn,tc,HA,hn,ca⟩ H1.1 bc.2.2.1 ad (bu.1.on cB.o) (bu.2.1.on cB.o);have bM:=iP (t:=a) H1.1.ok bc.2.2.1;generalize aV u S a=cY at *;obtain⟨cV,an⟩:=cY;dsimp only at ch bM o;refine ch.mono ?_;rintro e hT ⟨⟨bo,cw,cv,bD,cJ,cI,bH,cR,cO⟩,rfl,bA,aw⟩;clear bx a5 aT b2 ai N ch;dsimp only[SV.val];go_upto_region 9 with(fail);generalize hX:World.alloc _ _=c3;have bs:=aW hX;have br:=aI hX;have r:=(bA.ok λb O=>(O.resolve_left λh=>h).2).on bs;have ah:=cH r ((cB.o).trans (aw.trans bs)) br bM aw.size (aw.trans bs);clear hX bs br bA r aw bM;obtain⟨bx,a5,aT⟩:=(bO.1.aj ah.2.1).two;obtain⟨b2,ai,N⟩:=(ah.2.2.1).two;go_wp2_with(fail);have ch:=qv u cV b 61 c3 ⟨GA,gn,gc,MA,mn,mc,PA,pn,pc⟩ ⟨bo,cw,cv,bD,cJ,cI,bH,cR,cO⟩ H1.1 ah.2.2.2.1 ad (bu.1.on ah.2.1) ah.1;have bM:=iP (t:=b) H1.1.ok ah.2.2.2.1;generalize aV u cV b=bf at *;obtain⟨Z,av⟩:=bf;dsimp only at ch bM o;refine ch.mono ?_;rintro e hS ⟨⟨P,ax,hg,R,aK,aJ,af,a0,aY⟩,rfl,bA,aw⟩;clear bx a5 aT b2 ai N ch;dsimp only[SV.val];obtain⟨b2,ai,N⟩:=(ah.2.2.1.aj aw).two;go_upto_region 10 with(fail);generalize hX:World.setCell _ _ _=bT;obtain⟨br,bs,cz⟩:=bw (w:=gR) [.slice P ax hg,.slice R aK aJ,.slice af a0 aY,.int .i64 Z.fault] (by rfl) (ah.2.2.1.aj aw) (ah.2.2.2.2.2.trans aw) ah.2.2.2.2.1 hX
 have r:=(bA.al λb O=>cz.block b (O.resolve_left λh=>h).2 (by have ac:=(O.resolve_left λh=>h).1;have au:=ah.2.2.1.lt;omega)).ok λb O=>by
  have ac:=(O.resolve_left λh=>h).2;have au:=cz.size;omega
 have am:=bJ r bs br bM;clear hX bs br cz bA r aw bM b2 ai N;have aX:=ae (cB.trans am.2.1);obtain⟨bx,a5,aT⟩:=(bO.1.aj aX.o).two;obtain⟨b2,ai,N⟩:=(bO.2.aj aX.o).two;go_wp2_with(fail);have ch:=qv u S b 60 bT ⟨GA,gn,gc,MA,mn,mc,PA,pn,pc⟩ ⟨bU,bW,bE,TA,tn,tc,HA,hn,ca⟩ H1.1 bc.2.2.1 ad (bu.1.on aX.o) (bu.2.1.on aX.o);have bM:=iP (t:=b) H1.1.ok bc.2.2.1;generalize aV u S b=c1 at *;obtain⟨cW,c6⟩:=c1;dsimp only at ch bM o;refine ch.mono ?_;rintro e ao ⟨⟨bp,cy,cx,bF,cM,cL,bL,cU,cT⟩,rfl,bA,aw⟩;clear bx a5 aT b2 ai N ch;dsimp only[SV.val];go_upto_region 11 with(fail);generalize hX:World.alloc _ _=c4;have bs:=aW hX;have br:=aI hX;have r:=(bA.ok λb O=>(O.resolve_left λh=>h).2).on bs;have g:=cH r ((aX.o).trans (aw.trans bs)) br bM aw.size (aw.trans bs);clear hX bs br bA r aw bM;obtain⟨bx,a5,aT⟩:=(bO.1.aj g.2.1).two;obtain⟨b2,ai,N⟩:=(g.2.2.1).two;go_wp2_with(fail);have ch:=qv u cW a 61 c4 ⟨GA,gn,gc,MA,mn,mc,PA,pn,pc⟩ ⟨bp,cy,cx,bF,cM,cL,bL,cU,cT⟩ H1.1 g.2.2.2.1 ad (bu.1.on g.2.1) g.1;have bM:=iP (t:=a) H1.1.ok g.2.2.2.1;generalize aV u cW a=c2 at *;obtain⟨aa,c9⟩:=c2;dsimp only at ch bM o;refine ch.mono ?_;rintro e aF ⟨⟨Q,aH,aD,T,aO,aL,aj,a6,a2⟩,rfl,bA,aw⟩;clear bx a5 aT b2 ai N ch;dsimp only[SV.val];obtain⟨b2,ai,N⟩:=(g.2.2.1.aj aw).two;go_upto_region 12 with(fail);generalize hX:World.setCell _ _ _=cF;obtain⟨br,bs,cz⟩:=bw (w:=bT) [.slice Q aH aD,.slice T aO aL,.slice aj a6 a2,.int .i64 aa.fault] (by rfl) (g.2.2.1.aj aw) (g.2.2.2.2.2.trans aw) g.2.2.2.2.1 hX
 have r:=(bA.al λb O=>cz.block b (O.resolve_left λh=>h).2 (by have ac:=(O.resolve_left λh=>h).1;have au:=g.2.2.1.lt;omega)).ok λb O=>by
  have ac:=(O.resolve_left λh=>h).2;have au:=cz.size;omega
 have s:=bJ r bs br bM;clear hX bs br cz bA r aw bM b2 ai N;have cc:=ae (aX.trans s.2.1);obtain⟨bx,a5,aT⟩:=(am.2.2.1.aj s.2.1).two;obtain⟨b2,ai,N⟩:=(s.2.2.1).two;by_cases f2:Z.fault=0
 case neg=>
  have f4:aa.fault≠0:=by
   rcases o.o with h|h
   .exact h.2
   .exact h▸f2
  have cN:(Z.fault != 0)=true:=by simpa using f2
  have dd:(aa.fault != 0)=true:=by simpa using f4
  clear f2 f4;go_wp2_with(fail);refine(bY.o cF cc.o).mono ?_;rintro e az ⟨rfl,j⟩;go_wp2_with(fail);go_ret;exact⟨rfl,j⟩
 have cN:(Z.fault != 0)=false:=by simpa using f2
 have aM:aa=Z:=(o.resolve_left λh=>h.1 f2).symm;subst aM;have ba:=vg aa ⟨P,ax,hg,R,aK,aJ,af,a0,aY⟩ ⟨Q,aH,aD,T,aO,aL,aj,a6,a2⟩ cF (am.1.on s.2.1) s.1 (s.2.2.2.small H1.1.ok ad);have a3:=ae ba;clear ba f2;go_wp2_with(fail);refine a3.mono ?_;rintro e az ⟨rfl,j⟩;have be:=ae (cc.trans j);clear j bx a5 aT b2 ai N;go_wp2_with(fail);refine(bY.o az be.o).mono ?_;rintro e cQ ⟨rfl,al⟩;go_wp2_with(fail);go_ret;exact⟨rfl,al⟩
 ):p:=h
end DE
open DE in
theorem machineCommute_any(A B:L3)(n c m d:Nat)(l ak:List Int)(z a8:Int)(w:World)(h:cp (EF cP) 1 w w.heap.size A n l)(hp:cp (EF cP) 1 w w.heap.size B m ak)(hc:n<=c) :
  Calls prog 6 #[.slice A n c,.slice B m d,.int .i64 z,.int .i64 a8] w λe ab=>e=.returned (.bool true)/\Below w.heap.size w ab:=by
 have H:=ag h hp;clear h hp;go_enter func6,ntmps6;exact At
end Go.Proofs.YtkhnkojkplbioaaGreat
namespace Go.Proofs.YtkhnkojkplbioaaGreat.machineCommute
open Go.ChangeShapes Go.WideShapes Go.ChangeAt Go.RowKit
open Go.ChangeMaps (open_string shut_string)
set_option linter.unusedVariables false
theorem own:ownKnob Tryz.prog.godebug=none:=by kernel_rfl
theorem laidOut:laidOutB Tryz.prog=true:=by kernel_rfl
def IsRow (k:IntKind) (w:World) (a:Option Addr) (len cap:Nat) (zs:List Int):Prop:=
 (a=none/\len=0/\cap=0/\zs=[])\/
 ∃x,a=some x/\len<=cap/\cap<=maxLen/\zs.length=cap/\(∀i,i<zs.length->w.cell? (x.add i)=some (.int k (zs.getD i 0)))/\∀n∈zs,(Lit.int k n).wf=true
theorem walk (a0:Option Addr) (len0 cap0:Nat) (z0:List Int) (a1:Option Addr) (len1 cap1:Nat) (z1:List Int) (a2:Int) (a3:Int) (w:World) (w0:IsRow .i64 w a0 len0 cap0 z0) (w1:IsRow .i64 w a1 len1 cap1 z1) (w2:(Lit.int .i64 a2).wf=true) (w3:(Lit.int .i64 a3).wf=true) :
  Calls Tryz.prog 6 #[.slice a0 len0 cap0,.slice a1 len1 cap1,.int .i64 a2,.int .i64 a3] w λe w'=>e=.returned (.bool true)/\Below w.heap.size w w':=by
 exact machineCommute_any a0 a1 len0 cap0 len1 cap1 _ _ a2 a3 w (row_slr w0 rfl) (row_slr w1 rfl) (by rcases w0 with ⟨_,h,k,_⟩|⟨_,_,h,_⟩<;>omega)
theorem RB{p:Prop}(h:p:=by
 obtain⟨fuel,hf⟩:=hx
 rcases open_ints Tryz.underlying22 Tryz.underlying3 (by kernel_rfl) hf with ⟨hcs,_⟩|⟨x,l,c,zs,hcs,_,hl,hm,hz,_,hcell,hwz⟩
 .simp[Value.cells] at hcs
  obtain⟨rfl,rfl,rfl⟩:=hcs
  exact⟨[],.inl ⟨rfl,rfl,rfl,rfl⟩⟩
 .simp[Value.cells] at hcs
  obtain⟨rfl,rfl,rfl⟩:=hcs
  exact⟨zs,.inr ⟨_,rfl,hl,hm,by simpa using hz,hcell,hwz⟩⟩
 ):p:=h
set_option maxRecDepth 100000 in
theorem lifted (os:Os) (started:os.Started) (H:Type) (enc:TypeId×Value->H) :
  ReturnsInHanded {} Tryz.checked os 6 .any (Rows.machineCommuteSpec.pre6 enc Tryz.prog Tryz.f6 Rows.machineCommuteRow.domain false) (Rows.machineCommuteSpec.post enc Tryz.prog Tryz.f6 false true false false):=by
 refine returnsInHanded_of_change (C:=Tryz.checked) own started (by kernel_rfl) Tryz.func6
  (ChangeSpec.witness6 (enc:=enc) (C:=Tryz.checked) false ⟨#[],#[.slice none 0 0,.slice none 0 0,.int .i64 0,.int .i64 0],[]⟩ 8 (by kernel_rfl) (by kernel_rfl) (by kernel_rfl) (by kernel_rfl)) ?_
 intro W base args ds gs before hval0 hW hcnd _
 have hval:∀(j:Nat) t v,Tryz.f6.params[j]?=some t->args[j]?=some v->Value.okWide Tryz.prog W .any base t v:=hval0
 have hW':=hW
 obtain⟨p,q,hA0,hV,rfl,hfz,hnd⟩:=hW
 have hA:DataW.TrodAll enc Tryz.prog W 0 (λ_=>true) true Tryz.f6.params.toList args.toList ds p:=hA0
 rw[Tryz.params6] at hA hval
 obtain⟨v0,vs0,d0,ds0,p0,q0,hargs,rfl,rfl,h0,r0⟩:=trodAll_cons hA
 obtain⟨v1,vs1,d1,ds1,p1,q1,rfl,rfl,rfl,h1,r1⟩:=trodAll_cons r0
 obtain⟨v2,vs2,d2,ds2,p2,q2,rfl,rfl,rfl,h2,r2⟩:=trodAll_cons r1
 obtain⟨v3,vs3,d3,ds3,p3,q3,rfl,rfl,rfl,h3,r3⟩:=trodAll_cons r2
 obtain⟨rfl,rfl,rfl⟩:=trodAll_nil r3
 obtain rfl:args=#[v0,v1,v2,v3]:=by cases args;simp_all
 obtain⟨rfl,rfl⟩:=trodVars_none hV
 obtain⟨a0,len0,cap0,rfl⟩:=okWide_slice Tryz.underlying22 (hval 0 22 v0 rfl rfl)
 have k0:=h0
 have lt0:∀x∈p0,x.block<W.heap.size:=by obtain⟨m,hm⟩:=k0;exact DataW.trod_lt m _ _ _ hm
 have hx:=h0
 obtain⟨z0,w0⟩:∃zs,IsRow .i64 W a0 len0 cap0 zs:=RB
 clear hx
 obtain⟨a1,len1,cap1,rfl⟩:=okWide_slice Tryz.underlying22 (hval 1 22 v1 rfl rfl)
 have k1:=h1
 have lt1:∀x∈p1,x.block<W.heap.size:=by obtain⟨m,hm⟩:=k1;exact DataW.trod_lt m _ _ _ hm
 have hx:=h1
 obtain⟨z1,w1⟩:∃zs,IsRow .i64 W a1 len1 cap1 zs:=RB
 clear hx
 obtain⟨a2,rfl,rfl,rfl,w2⟩:=open_int Tryz.underlying3 (hval 2 3 v2 rfl rfl) h2
 obtain⟨a3,rfl,rfl,rfl,w3⟩:=open_int Tryz.underlying3 (hval 3 3 v3 rfl rfl) h3
 clear hA0 hval0
 refine (walk a0 len0 cap0 z0 a1 len1 cap1 z1 a2 a3 W w0 w1 w2 w3).mono λe W' ⟨he,bel⟩=>?_
 subst he
 exact⟨_,rfl,_,_,_,[],_,[],hW',trodAll_mk1 (shut_bool Tryz.underlying4 _),(trodAll_cons_mk (Below.trod laidOut (by kernel_rfl) (of_decide_eq_true (by kernel_rfl)) k0 bel lt0) (trodAll_cons_mk (Below.trod laidOut (by kernel_rfl) (of_decide_eq_true (by kernel_rfl)) k1 bel lt1) (trodAll_cons_mk (shut_int Tryz.underlying3 w2) (trodAll_cons_mk (shut_int Tryz.underlying3 w3) trodAll_mk0)))),rfl,bel.frame _,λh=>by cases h⟩
theorem over:Rows.machineCommuteRow.holds Tryz.pinned (OpenSpec.ofChange Rows.machineCommuteSpec):=
 OpenClaim.holds_of_wide 6 Tryz.f6 rfl rfl rfl rfl rfl rfl rfl ⟨rfl,rfl,rfl,rfl,rfl⟩ rfl rfl rfl rfl rfl (by kernel_rfl) Tryz.func6 (by kernel_rfl)
  (of_decide_eq_true (by kernel_rfl)) (by unfold Func.isWrapper;first|(rw[if_pos (by decide +kernel)];kernel_rfl)|(rw[if_neg (by decide +kernel)];exact⟨rfl,rfl⟩))
  (λos started H enc _=>lifted os started H enc)
theorem proved:Rows.MachineCommuteSaid:=over
#print axioms proved
end Go.Proofs.YtkhnkojkplbioaaGreat.machineCommute
