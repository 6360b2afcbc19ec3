/- Part 29 of the proof. No condition of its own. -/
import Derived.Test.YtpkfopfkdgkfkaaGreatQ15
import Derived.Test.YtpkfopfkdgkfkaaGreatQ28
namespace Go.Proofs.YtpkfopfkdgkfkaaGreat
open Go.RowKit Go.Proofs.Tryz
set_option maxRecDepth 1000000
set_option maxHeartbeats 25600000
set_option linter.unusedVariables false
variable{p:Prop}
namespace CJ
theorem vI(h:p:=by
 go_enter func58,ntmps58;exact vu
 ):p:=h
end CJ
open CJ in
theorem wg(A A2:Mt)(n c n2 c2:Nat)(S T:List Int)(w:World)(hs:cw (EF cO) 1 w w.heap.size A n S)(ht:cw (EF cO) 1 w w.heap.size A2 n2 T)(hn:n<=140737488355328) :
  Calls prog 58 #[.slice A n c,.slice A2 n2 c2] w λr ab=>r=.returned (.bool (decide (S=T)))/\Below w w ab:=by
 have hl:=hs.1;have bc:=ht.1;by_cases bi:n=n2
 case neg=>
  exact vH
 subst bi;obtain⟨b6,L⟩:=aJ hl bc;clear hl bc;have bt:((n:Int) != (n:Int))=false:=by simp
 go_enter func58,ntmps58;go_wp2;go_loopw [13] (λi wr=>∃k:Nat,k<=n/\i=.int .i64 k/\(∀j,j<k->S[j]?=T[j]?)/\Below w w wr) (λi _=>n - (intOf i).toNat)
 case atStart=>exact⟨0,Md _,rfl,λj bd=>absurd bd ad,Below.refl _ _⟩
 case round=>
  obtain⟨k,aj,rfl,bm,O⟩:=hrel;have aD:=ae bm;clear bm;by_cases an:k<n
  .obtain⟨b,o,x,rfl,aB,hx,c0⟩:=(hs.cZ O O.size).int an;obtain⟨K,Q,d,rfl,l,g,d0⟩:=(ht.cZ O O.size).int an;exact Hj
  .obtain rfl:k=n:=ad;exact DV
namespace CK
theorem vI(h:p:=by
 go_enter func59,ntmps59;exact vu
 ):p:=h
end CK
open CK in
theorem Gg(A A2:Mt)(n c n2 c2:Nat)(S T:List cx)(w:World)(hs:cw (EF bO) 2 w w.heap.size A n S)(ht:cw (EF bO) 2 w w.heap.size A2 n2 T)(hn:n<=140737488355328) :
  Calls prog 59 #[.slice A n c,.slice A2 n2 c2] w λr ab=>r=.returned (.bool (decide (S=T)))/\Below w w ab:=by
 have hl:=hs.1;have bc:=ht.1;by_cases bi:n=n2
 case neg=>
  exact vH
 subst bi;obtain⟨b6,L⟩:=aJ hl bc;clear hl bc;have bt:((n:Int) != (n:Int))=false:=by simp
 go_enter func59,ntmps59;go_wp2;go_loopw [13] (λi wr=>∃k:Nat,k<=n/\i=.int .i64 k/\(∀j,j<k->S[j]?=T[j]?)/\Below w w wr) (λi _=>n - (intOf i).toNat)
 case atStart=>exact⟨0,Md _,rfl,λj bd=>absurd bd ad,Below.refl _ _⟩
 case round=>
  obtain⟨k,aj,rfl,bm,O⟩:=hrel;have aD:=ae bm;clear bm;by_cases an:k<n
  .obtain⟨b,o,x,rfl,aB,hx,c0,c1⟩:=(hs.cZ O O.size).hold an;obtain⟨K,Q,d,rfl,l,g,d0,d1⟩:=(ht.cZ O O.size).hold an;have bp:(0:Int)<=(k:Int):=ad;have ce:(k:Int)<(n:Int):=ad;have e:=Gt x.owner x.depth d.owner d.depth;by_cases hd:x=d
   .have aN:=ae (show S[k]?=T[k]? by rw[hx,g,hd]);have u:decide (x.owner≠d.owner\/x.depth≠d.depth)=false:=by subst hd;simp
    clear hx g hd;go_wp2;go_quiet (fail)
    go_wp2;go_roundw
    case rel=>
     refine⟨k+1,ad,by go_num,λj bd=>?_,cY O _⟩;exact HD
    case measure=>exact aH
   .have a3:=ae (show decide (S=T)=false from decide_eq_false (λh=>by
     subst h;rw[hx] at g;injection g with g;exact hd g))
    have u:decide (x.owner≠d.owner\/x.depth≠d.depth)=true:=decide_eq_true (by cases x;cases d;simp at hd ⊢;omega);clear hx g hd;go_wp2;go_quiet (fail)
    go_wp2;go_ret;exact⟨ret_bool (by rw[a3.o]),cY O _⟩
  .obtain rfl:k=n:=ad;exact DV
namespace CL
theorem sK(h:p:=by
 clear aO;by_cases e3:c4=m
 case neg=>
  have c9:decide (c4=m)=false:=decide_eq_false e3;have bX:=ae e3;clear e3;go_wp2_with(fail);go_ret;exact⟨false,rfl,⟨λh=>(by cases h),λh=>absurd (b4.1 h).2.2.1 bX.o⟩,H1.o⟩
 have c9:decide (c4=m)=true:=decide_eq_true e3;have u:=ae e3;clear e3;go_wp2_with(fail);refine(wg bw KA l lc k kc v di aS ((bt.2.1.on (Fr.ext H1.o)).ints) ((bt.2.2.2.on (Fr.ext H1.o)).ints) ad).mono ?_;rintro e aT ⟨rfl,bj⟩;have bc:=ae (H1.trans (Fr.of bj));clear a0 ai af bq am aG bj;go_wp2_with(fail);go_ret;refine⟨decide (v=di),rfl,⟨λh=>b4.2 ⟨n.o,x.o,u.o,of_decide_eq_true h⟩,λh=>decide_eq_true (b4.1 h).2.2.2⟩,bc.o⟩
 ):p:=h
end CL
open CL in
theorem wL(f g:al)(IA bw dn KA:Mt)(i ic l lc j dj k kc:Nat)(w:World)(ac:Sl w (aq w) IA i (f.ints.map D.i))(ap:Sl w (aq w) bw l (f.an.map D.i))(aV:Sl w (aq w) dn j (g.ints.map D.i))(bz:Sl w (aq w) KA k (g.an.map D.i))(aX:i<=100000)(hl:l<=100000) :
  Calls prog 63 #[.agg #[.int .i64 f.proc,.int .i64 f.pc,.slice IA i ic,.slice bw l lc],.agg #[.int .i64 g.proc,.int .i64 g.pc,.slice dn j dj,.slice KA k kc]] w (h4 w (f=g)):=by
 have bt:=bF ac ap aV bz;have b4:Mw (f=g↔f.proc=g.proc/\f.pc=g.pc/\f.ints=g.ints/\f.an=g.an):=ae Ex;clear ac ap aV bz;generalize aQ:f.ints=c4 at *;generalize ce:f.an=v at *;generalize r:g.ints=m at *;generalize cl:g.an=di at *;generalize o:f.proc=a1 at *;generalize y:g.proc=bJ at *;generalize q:f.pc=p3 at *;generalize s:g.pc=p4 at *;clear aQ ce r cl o y q s;go_enter func63,ntmps63;go_upto_region 1 with(fail);generalize ba:World.alloc _ _=W;have aw:=h9 ba;have bM:=gb ba;have bI:=fG ba;have ah:=az aw bM bI;obtain⟨a0,ai,af⟩:=bM.two;obtain⟨bq,am,aG⟩:=bI.two;clear ba aw bM bI;by_cases e1:a1=bJ
 case neg=>
  exact zJ
 have q1:(a1 == bJ)=true:=by simpa using e1
 have n:=ae e1;clear e1;by_cases e2:p3=p4
 case neg=>
  have cJ:(p3 == p4)=false:=by simpa using e2
  have bX:=ae e2;clear e2;go_wp2_with(fail);go_ret;exact⟨false,rfl,⟨λh=>(by cases h),λh=>absurd (b4.1 h).2.1 bX.o⟩,ah.1⟩
 have cJ:(p3 == p4)=true:=by simpa using e2
 have x:=ae e2;clear e2;go_wp2_with(fail);refine(wg IA dn i ic j dj c4 m W ((bt.1.on (Fr.ext ah.1)).ints) ((bt.2.2.1.on (Fr.ext ah.1)).ints) ad).mono ?_;rintro e aS ⟨rfl,b0⟩;have aO:Ext W aS:=Fr.of b0;have H1:=ae (ah.1.trans aO);exact vP
namespace CM
theorem Be(h:p:=by
 refine(wL f g IA bw dn KA x ic y lc z dj v kc Y (cU.1.on (Fr.ext bC.o)) (cU.2.1.on (Fr.ext bC.o)) (cU.2.2.1.on (Fr.ext bC.o)) (cU.2.2.2.1.on (Fr.ext bC.o)) (ay cU.2.2.2.2) (ay cU.2.2.2.2)).mono ?_;exact Ho
 ):p:=h
end CM
open CM in
theorem Ep(A B:Mt)(n c m aE:Nat)(l k:List al)(w:World)(hl:Sl w (aq w) A n (l.map dh))(aj:Sl w (aq w) B m (k.map dh))(hn:n<=1000000)(b1:∀f∈l,f.ints.length<=100000/\f.an.length<=100000) :
  Calls prog 62 #[.slice A n c,.slice B m aE,.func (.func 63) #[] #[]] w (h4 w (l=k)):=by
 have cg:l.length=n:=by have:=hl.1;simpa using this
 have cj:k.length=m:=by have:=aj.1;simpa using this
 have bX:=az cg cj b1;have bt:=ag hl aj;clear cg cj b1 hl aj;go_enter func62,ntmps62;by_cases R:n=m
 case neg=>
  exact HE
 subst R;have q1:((n:Int) != (n:Int))=false:=by simp
 go_wp2_with(fail);go_loopw [17] (λcA wr=>∃i:Nat,cA=.int .i64 i/\i<=n/\Ext w wr/\∀j,j<i->l[j]?=k[j]?) (λcA _=>n - (intOf cA).toNat)
 case atStart=>exact⟨0,rfl,ad,Mo,λj bd=>ad⟩
 case round=>
  obtain⟨i,rfl,aX,aw,P⟩:=hrel;have br:=ag aw P;by_cases an:i<n
  .obtain⟨cm,da,f,IA,x,ic,bw,y,lc,rfl,cy,H,c0,c1,c2,c3,cH,cx,aQ,ce⟩:=(bt.1.on (Fr.ext aw)).rL an;obtain⟨ct,go,g,dn,z,dj,KA,v,kc,rfl,cJ,N,d0,d1,d2,d3,a4,ab,r,cl⟩:=(bt.2.on (Fr.ext aw)).rL an;have a6:cm<wr:=cy;have Z:ct<wr:=cJ;have b1:=bX.2.2 f (LN H);have aY:x=f.ints.length:=by have:=aQ.1;simpa using this.symm
   have a3:y=f.an.length:=by have:=ce.1;simpa using this.symm
   have cU:=cL aQ ce r cl (show x<=100000/\y<=100000 by omega);have bN:=ag H N;clear b1 aY a3 aQ ce r cl H N cy cJ cH cx a4 ab;clear aw P;go_upto_region 6 with(fail);generalize hX:World.alloc _ _=X;have bu:=aU hX;have bp:=aI hX;have cr:=bp.lt;have aN:=ag bu bp;replace d0:=(bu.cell Z λh=>h).trans d0
   replace d1:=(bu.cell Z λh=>h).trans d1
   replace d2:=(bu.cell Z λh=>h).trans d2
   replace d3:=(bu.cell Z λh=>h).trans d3
   exact Bd
  .obtain rfl:i=n:=ad;exact HC
theorem uq(A B:Mt)(n c m aE:Nat)(l k:List al)(w:World)(hl:Sl w (aq w) A n (l.map dh))(aj:Sl w (aq w) B m (k.map dh))(hn:n<=1000000)(b1:∀f∈l,f.ints.length<=100000/\f.an.length<=100000) :
  Calls prog 61 #[.agg #[.slice A n c],.agg #[.slice B m aE]] w (h4 w (l=k)):=by
 have bt:=az hl aj b1;clear hl aj b1;go_enter func61,ntmps61;go_upto_region 1 with(fail);generalize ba:World.alloc _ _=W;have aw:=h9 ba;have bM:=gb ba;have bI:=fG ba;have ah:=ae aw;obtain⟨a0,ai,af⟩:=bM.two;obtain⟨bq,am,aG⟩:=bI.two;clear ba aw bM bI;go_wp2_with(fail);refine(Ep A B n c m aE l k W (bt.1.on (Fr.ext ah.o)) (bt.2.1.on (Fr.ext ah.o)) hn bt.2.2).mono ?_;rintro e aT ⟨bb,rfl,aB,aW⟩;clear a0 ai af bq am aG;go_wp2_with(fail);go_ret;exact⟨bb,rfl,aB,ah.trans aW⟩
namespace CN
theorem Be(h:p:=by
 refine(uq FA GA x fc z gc f g Y (cU.1.on (Fr.ext bC.o)) (cU.2.1.on (Fr.ext bC.o)) cU.2.2.1 cU.2.2.2).mono ?_;exact Ho
 ):p:=h
end CN
open CN in
theorem yN(A B:Mt)(n c m aE:Nat)(l k:List (List al))(w:World)(hl:Sl w (aq w) A n (l.map fI))(aj:Sl w (aq w) B m (k.map fI))(hn:n<=1000000)(b1:∀t∈l,t.length<=1000000/\∀f∈t,f.ints.length<=100000/\f.an.length<=100000) :
  Calls prog 60 #[.slice A n c,.slice B m aE,.func (.func 61) #[] #[]] w (h4 w (l=k)):=by
 have cg:l.length=n:=by have:=hl.1;simpa using this
 have cj:k.length=m:=by have:=aj.1;simpa using this
 have bX:=az cg cj b1;have bt:=ag hl aj;clear cg cj b1 hl aj;go_enter func60,ntmps60;by_cases R:n=m
 case neg=>
  exact HE
 subst R;have q1:((n:Int) != (n:Int))=false:=by simp
 go_wp2_with(fail);go_loopw [17] (λcA wr=>∃i:Nat,cA=.int .i64 i/\i<=n/\Ext w wr/\∀j,j<i->l[j]?=k[j]?) (λcA _=>n - (intOf cA).toNat)
 case atStart=>exact⟨0,rfl,ad,Mo,λj bd=>ad⟩
 case round=>
  obtain⟨i,rfl,aX,aw,P⟩:=hrel;have br:=ag aw P;by_cases an:i<n
  .obtain⟨cm,da,f,FA,x,fc,rfl,cy,H,c0,aJ,cI⟩:=(bt.1.on (Fr.ext aw)).m4 an;obtain⟨ct,go,g,GA,z,gc,rfl,cJ,N,d0,S,bB⟩:=(bt.2.on (Fr.ext aw)).m4 an;have a6:cm<wr:=cy;have Z:ct<wr:=cJ;have b1:=bX.2.2 f (LN H);have aY:x=f.length:=by have:=cI.1;simpa using this.symm
   have cU:=bF cI bB (show x<=1000000 by omega) b1.2;have bN:=ag H N;clear b1 aY cI bB H N cy cJ aJ S;clear aw P;go_upto_region 6 with(fail);generalize hX:World.alloc _ _=X;have bu:=aU hX;have bp:=aI hX;have cr:=bp.lt;have aN:=ag bu bp;replace d0:=(bu.cell Z λh=>h).trans d0
   exact Bd
  .obtain rfl:i=n:=ad;exact HC
namespace CO
theorem sK(h:p:=by
 have g:=ae aO;clear aO;by_cases e3:s.globals=Q.globals
 case neg=>
  have c9:decide (s.globals=Q.globals)=false:=decide_eq_false e3;have bX:=ae e3;clear e3;go_wp2_with(fail);go_ret;exact⟨false,rfl,⟨λh=>(by cases h),λh=>absurd (b4.1 h).2.1 bX.o⟩,H1.o⟩
 have c9:decide (s.globals=Q.globals)=true:=decide_eq_true e3;have u:=ae e3;clear e3;go_wp2_with(fail);refine(Gg TA ab tn tc aF ax s.table Q.table aS ((bt.1.on H1.o).at_.t.holds) ((bt.2.1.on H1.o).at_.t.holds) ad).mono ?_;rintro e aT ⟨rfl,bj⟩;have aW:Ext aS aT:=Fr.of bj;have bc:=ae (H1.trans aW);clear a0 ai af bq am aG bj;obtain⟨a0,ai,af⟩:=(ah.2.1.aj (g.trans aW)).two;obtain⟨bq,am,aG⟩:=(ah.2.2.aj (g.trans aW)).two;clear aW;by_cases be:s.table=Q.table
 case neg=>
  have dk:decide (s.table=Q.table)=false:=decide_eq_false be;have bX:=ae be;clear be;go_wp2_with(fail);go_ret;exact⟨false,rfl,⟨λh=>(by cases h),λh=>absurd (b4.1 h).2.2.1 bX.o⟩,bc.o⟩
 have dk:decide (s.table=Q.table)=true:=decide_eq_true be;have j:=ae be;clear be;go_wp2_with(fail);refine(yN HA b9 hn hc hm hd s.threads Q.threads aT ((bt.1.on bc.o).at_.h) ((bt.2.1.on bc.o).at_.h) ad bt.2.2).mono ?_;rintro e b7 ⟨bb,rfl,aB,a7⟩;have bQ:=ag aB (bc.trans a7);clear a0 ai af bq am aG aB a7;go_wp2_with(fail);go_ret;exact⟨bb,rfl,⟨λh=>b4.2 ⟨n.o,u.o,j.o,bQ.1.1 h⟩,λh=>bQ.1.2 (b4.1 h).2.2.2⟩,bQ.2⟩
 ):p:=h
end CO
open CO in
theorem JH(s Q:ak)(q z:SV)(w:World)(h:q.Ok w s)(E:z.Ok w Q)(b1:Small s) :
  Calls prog 28 #[.agg (q.val s),.agg (z.val Q)] w (h4 w (s=Q)):=by
 obtain⟨GA,gn,gc,TA,tn,tc,HA,hn,hc⟩:=q;obtain⟨bh,l,k,ab,aF,ax,b9,hm,hd⟩:=z;have sZ:gn<=100000:=by have ac:=h.at_.g.1;have ap:=b1.g;rw[LO] at ac;have aV:s.globals.length=gn:=ac;omega
 have ud:tn<=100000:=by have ac:=h.at_.t.1;have ap:=b1.t;rw[LO] at ac;have aV:s.table.length=tn:=ac;omega
 have nv:hn<=100000:=by have ac:=h.at_.h.1;have ap:=b1.h;rw[LO] at ac;have aV:s.threads.length=hn:=ac;omega
 have cB:∀t∈s.threads,t.length<=1000000/\∀f∈t,f.ints.length<=100000/\f.an.length<=100000:=λt ht=>⟨by have:=(b1.f t ht).1;omega,λf J=>by have:=(b1.f t ht).2 f J;omega⟩
 have bt:=az h E cB;have b4:Mw (s=Q↔s.fault=Q.fault/\s.globals=Q.globals/\s.table=Q.table/\s.threads=Q.threads):=ae (by cases s;cases Q;simp;exact⟨λ⟨a,b,c,d⟩=>⟨d,a,b,c⟩,λ⟨d,a,b,c⟩=>⟨a,b,c,d⟩⟩);clear h E b1 cB;dsimp only[SV.val];generalize al:s.fault=a1 at *;generalize i:Q.fault=bJ at *;go_enter func28,ntmps28;go_upto_region 1 with(fail);generalize ba:World.alloc _ _=W;have aw:=h9 ba;have bM:=gb ba;have bI:=fG ba;have ah:=az aw bM bI;obtain⟨a0,ai,af⟩:=bM.two;obtain⟨bq,am,aG⟩:=bI.two;clear ba aw bM bI al i;by_cases e1:a1=bJ
 case neg=>
  exact zJ
 have q1:(a1 == bJ)=true:=by simpa using e1
 have n:=ae e1;clear e1;go_wp2_with(fail);refine(wg GA bh gn gc l k s.globals Q.globals W ((bt.1.on ah.1).at_.g.ints) ((bt.2.1.on ah.1).at_.g.ints) ad).mono ?_;rintro e aS ⟨rfl,b0⟩;have aO:Ext W aS:=Fr.of b0;have H1:=ae (ah.1.trans aO);exact vP
def eI(u:aA)(f:al):Prop:=0<=f.proc/\0<=f.pc/\∃p,u.procs[f.proc.toNat]?=some p/\f.pc<p.code.length/\(f.ints.length:Int)=p.locals/\(f.an.length:Int)=p.an/\∀k∈f.an,0<=k/\k<elems u.af
def ki(u:aA)(s:ak):Prop:=s.globals.length=u.globals.length/\1<=s.threads.length/\s.threads.length<=32/\0<=s.fault/\s.fault<=4/\fk u.af s.table s.threads.length=true/\∀t∈s.threads,∀f∈t,eI u f
def zu{α:Type}(w:World)(l:List α)(p:α->Prop)(e:Ending)(ab:World):Prop:=∃r:Int,e=.returned (.int .i64 r)/\(0<=r↔∃x∈l,p x)/\Ext w ab
theorem F3(x N:Int)(g:Nat)(w:World)(aR:g<w.heap.size)(hc:w.cell? ⟨g,0,none⟩=some (.int .i64 N)) :
  Calls prog 46 #[x,.pointer (some ⟨g,0,none⟩)] w (h4 w (x<0\/N<=x)):=by
 go_enter func46,ntmps46;by_cases h0:x<0
 .have q1:decide (x<0)=true:=decide_eq_true h0;have bX:=ae h0;clear h0;go_wp2_with(fail);go_ret;exact⟨true,rfl,⟨λ_=>.inl bX.o,λ_=>rfl⟩,Mo⟩
 .have q1:decide (x<0)=false:=decide_eq_false h0;have bX:=ae h0;clear h0;go_wp2_with(fail);go_ret;exact⟨decide (x>=N),rfl,⟨λh=>.inr (of_decide_eq_true h),λh=>decide_eq_true (ay bX.o)⟩,Mo⟩
theorem Gl(A:Mt)(n c:Nat)(l:List Int)(N:Int)(g:Nat)(w:World)(hl:Sl w (aq w) A n (l.map D.i))(hn:n<=9223372036854775807)(aR:g<w.heap.size)(hc:w.cell? ⟨g,0,none⟩=some (.int .i64 N)) :
  Calls prog 84 #[.slice A n c,.func (.func 46) #[] #[.pointer (some ⟨g,0,none⟩)]] w (zu w l (λx=>x<0\/N<=x)):=by
 have cg:l.length=n:=by have:=hl.1;simpa using this
 have bX:=ag cg hl;have bU:=ag aR hc;clear hc;clear cg hl;go_enter func84,ntmps84;go_wp2_with(fail);go_loopw [8] (λcA wr=>∃i:Nat,cA=.int .i64 i/\i<=n/\Ext w wr/\∀j x,j<i->l[j]?=some x->¬(λx=>x<0\/N<=x) x) (λcA _=>n - (intOf cA).toNat)
 case atStart=>exact⟨0,rfl,ad,Mo,λj x bd=>ad⟩
 case round=>
  obtain⟨i,rfl,aX,aw,P⟩:=hrel;have br:=ag aw P;by_cases an:i<n
  .obtain⟨b,o,x,rfl,O,hx,c0⟩:=(bX.2.on (Fr.ext aw)).rO an;have bN:=ae hx;have a1:b<wr:=O;clear hx O;clear aw P;go_wp2_with(fail);refine(F3 x N g wr (LL bU.1 br.1.size) ((br.1.cell bU.1 λh=>h).trans bU.2)).mono ?_;exact DR
  .obtain rfl:i=n:=ad;exact DW
theorem hasInts(A:Mt)(n c:Nat)(l:List Int)(N:Int)(g:Nat)(w:World)(hl:Sl w (aq w) A n (l.map D.i))(hn:n<=9223372036854775807)(aR:g<w.heap.size)(hc:w.cell? ⟨g,0,none⟩=some (.int .i64 N)) :
  Calls prog 45 #[.slice A n c,.func (.func 46) #[] #[.pointer (some ⟨g,0,none⟩)]] w (h4 w (∃x∈l,(λx=>x<0\/N<=x) x)):=by
 have b5:=ae (Gl A n c l N g w hl hn aR hc);clear hl hc;go_enter func45,ntmps45;exact DX
theorem ur(u:aA)(f:al)(p:UV)(IA bw:Mt)(i ic l lc:Nat)(w:World)(hu:p.Ok w u)(bi:u.procs.length<=100000)(bh:∀q∈u.procs,q.code.length<=100000)(ac:Sl w (aq w) IA i (f.ints.map D.i))(ap:Sl w (aq w) bw l (f.an.map D.i))(hl:l<=9223372036854775807) :
  Calls prog 22 #[.agg (p.val u),.agg #[.int .i64 f.proc,.int .i64 f.pc,.slice IA i ic,.slice bw l lc],.int .i64 (elems u.af)] w (h4 w (eI u f)):=by
 obtain⟨GA,gn,gc,MA,mn,mc,PA,pn,pc⟩:=p;have c9:i=f.ints.length:=by have:=ac.1;simpa using this.symm
 have bE:l=f.an.length:=by have:=ap.1;simpa using this.symm
 have dW:u.procs.length=pn:=by have:=hu.at_.p.1;rw[LO] at this;exact this
 have bt:=gr hu ac ap c9 bE dW bh;have cZ:pn<=100000:=ad;clear hu ac ap c9 bE dW bh bi;have b4:Mw (eI u f↔0<=f.proc/\0<=f.pc/\∃p,u.procs[f.proc.toNat]?=some p/\f.pc<p.code.length/\(f.ints.length:Int)=p.locals/\(f.an.length:Int)=p.an/\∀k∈f.an,0<=k/\k<elems u.af):=ae Iff.rfl;generalize eI u f=y at *;generalize dY:f.proc=a1 at *;generalize aJ:f.pc=p3 at *;generalize j:elems u.af=N at *;clear dY aJ j;dsimp only[UV.val];go_enter func22,ntmps22;go_upto_region 1 with(fail);generalize ba:World.alloc _ _=W;have aw:=lD ba;have bI:=jx ba;have bZ:=h6 ba;have ck:=jy ba;have ah:=bF aw bI bZ ck;obtain⟨a0,ai,af⟩:=bI.two;obtain⟨bq,am,aG⟩:=bZ.two;obtain⟨d0,aK,aM⟩:=ck.two;clear ba aw bI bZ ck;by_cases e1:a1<0
 .have q1:decide (a1<0)=true:=decide_eq_true e1;exact Hy
 have q1:decide (a1<0)=false:=decide_eq_false e1;by_cases e2:a1>=(pn:Int)
 .have cJ:decide (a1>=(pn:Int))=true:=decide_eq_true e2;have n:=ag e1 e2;clear e1 e2;go_wp2_with(fail);go_ret;refine⟨false,rfl,⟨λh=>(by cases h),λh=>?_⟩,ah.1⟩;obtain⟨_,_,p,hp,_⟩:=b4.1 h;have:=(List.getElem?_eq_some_iff.1 hp).1;have:=n.o;have:=bt.2.2.2.2.2.1;omega
 have cJ:decide (a1>=(pn:Int))=false:=decide_eq_false e2;have V:0<=a1:=ad;have o:a1<(pn:Int):=ad;obtain⟨pb,gU,cn,S,cT,b2,e,bg,cD,cK,cp,cX,bx,bK,a4,T⟩:=(bt.1.on ah.1).at_.proc (k:=a1.toNat) (by show a1.toNat<pn;omega);simp only at e;subst e;have bo:pb<W:=bg;have a6:cT=cn.code.length:=by have:=T.1;simpa using this.symm
 have r:=bt.2.2.2.2.2.2 cn (LN cD);have bj:cT<=100000:=ad;have ct:=ag cD a6;clear e1 e2 bg cD a4 T a6 r;go_upto_region 4 with(fail);generalize hX:World.alloc _ _=X;have bu:=aU hX;have bp:=aI hX;have aN:=ae (ah.1.trans bu);clear a0 ai af bq am aG d0 aK aM cK cp cX bx bK;obtain⟨bq,am,aG⟩:=(ah.2.2.1.aj bu).two;have a5:=ah.2.2.2.aj bu;have dB:=ae a5;have s:=a5.lt;obtain⟨ci,bO,b5⟩:=bp.two;clear hX bu bp a5;have kz:y↔0<=p3/\p3<(cT:Int)/\(i:Int)=cn.locals/\(l:Int)=cn.an/\∀k∈f.an,0<=k/\k<N:=by
  rw[b4.o,ct.2,bt.2.2.2.1,bt.2.2.2.2.1];constructor
  .rintro⟨_,ap,p,hp,aV,bz,cI,bM⟩;rw[ct.1] at hp;injection hp with hp;subst hp;exact⟨ap,aV,bz,cI,bM⟩
  .rintro⟨ap,aV,bz,cI,bM⟩;exact⟨V,ap,cn,ct.1,aV,bz,cI,bM⟩
 have b3:=ae kz;clear kz;by_cases e3:p3>=0
 case neg=>
  have av:decide (p3>=0)=false:=decide_eq_false e3;have n:=ae e3;clear e3;go_wp2_with(fail);go_ret;exact⟨false,rfl,⟨λh=>(by cases h),λh=>absurd (b3.1 h).1 (ay n.o)⟩,aN.o⟩
 have av:decide (p3>=0)=true:=decide_eq_true e3;have R:=ae e3;clear e3;by_cases be:p3<(cT:Int)
 case neg=>
  have ax:decide (p3<(cT:Int))=false:=decide_eq_false be;have n:=ae be;clear be;go_wp2_with(fail);go_ret;exact⟨false,rfl,⟨λh=>(by cases h),λh=>absurd (b3.1 h).2.1 (ay n.o)⟩,aN.o⟩
 have ax:decide (p3<(cT:Int))=true:=decide_eq_true be;have Z:=ae be;clear be;by_cases co:(i:Int)=cn.locals
 case neg=>
  have aC:((i:Int) == cn.locals)=false:=by simpa using co
  have n:=ae co;clear co;go_wp2_with(fail);go_ret;exact⟨false,rfl,⟨λh=>(by cases h),λh=>absurd (b3.1 h).2.2.1 (ay n.o)⟩,aN.o⟩
 have aC:((i:Int) == cn.locals)=true:=by simpa using co
 have ab:=ae co;clear co;by_cases bD:(l:Int)=cn.an
 case neg=>
  have v:((l:Int) == cn.an)=false:=by simpa using bD
  have n:=ae bD;clear bD;go_wp2_with(fail);go_ret;exact⟨false,rfl,⟨λh=>(by cases h),λh=>absurd (b3.1 h).2.2.2.1 (ay n.o)⟩,aN.o⟩
 have v:((l:Int) == cn.an)=true:=by simpa using bD
 have m:=ae bD;clear bD;go_wp2_with(fail);refine(hasInts bw l lc f.an N (w.heap.size+2) X (bt.2.2.1.on (Fr.ext aN.o)) hl s (by rw[dB.cell];rfl)).mono ?_;rintro e aT ⟨bb,rfl,aB,aW⟩;have bc:=ag aB (aN.trans aW);clear aB aW bq am aG ci bO b5;go_wp2_with(fail);go_ret;refine⟨!bb,rfl,⟨λh=>b3.2 ⟨R.o,Z.o,ab.o,m.o,λk aj=>?_⟩,λh=>?_⟩,bc.2⟩
 .have O:¬bb=true:=by cases bb<;>simp at h ⊢
  exact Classical.byContradiction λhn=>O (bc.1.2 ⟨k,aj,show k<0\/N<=k by omega⟩)
 .have:=(b3.1 h).2.2.2.2
  cases O:bb with
  | false=>rfl
  | true=>
   obtain⟨x,hx,a7⟩:=bc.1.1 O;have:=this x hx;omega
theorem D8(u:aA)(f:al)(p:UV)(o k:Nat)(IA bw:Mt)(i ic l lc:Nat)(w:World)(hu:p.Ok w u)(bi:u.procs.length<=100000)(bh:∀q∈u.procs,q.code.length<=100000)(ac:Sl w (aq w) IA i (f.ints.map D.i))(ap:Sl w (aq w) bw l (f.an.map D.i))(hl:l<=9223372036854775807)
  (m:au w o 34 (p.val u)) (z:au w k 3 #[.int .i64 (elems u.af)]) :
  Calls prog 21 #[.agg #[.int .i64 f.proc,.int .i64 f.pc,.slice IA i ic,.slice bw l lc],.pointer (some ⟨o,0,none⟩),.pointer (some ⟨k,0,none⟩)] w (h4 w (¬eI u f)):=by
 obtain⟨GA,gn,gc,MA,mn,mc,PA,pn,pc⟩:=p;have bt:=cL hu ac ap m z;clear hu ac ap m z;go_enter func21,ntmps21;go_upto_region 1 with(fail);generalize ba:World.alloc _ _=W;have aw:=aU ba;have bZ:=aI ba;have ah:=ae aw;obtain⟨a0,ai,af⟩:=(bt.2.2.2.1.aj aw).two;obtain⟨bq,am,aG⟩:=bZ.two;obtain⟨d0,aK,aM⟩:=(bt.2.2.2.2.aj aw).two;clear ba aw bZ;go_wp2_with(fail);refine(ur u f ⟨GA,gn,gc,MA,mn,mc,PA,pn,pc⟩ IA bw i ic l lc W (bt.1.on ah.o) bi bh (bt.2.1.on (Fr.ext ah.o)) (bt.2.2.1.on (Fr.ext ah.o)) hl).mono ?_;rintro e aT ⟨bb,rfl,aB,aW⟩;have bc:=ag aB (ah.trans aW);clear aB aW a0 ai af bq am aG d0 aK aM;go_wp2_with(fail);go_ret;refine⟨!bb,rfl,⟨λh bE=>?_,λh=>?_⟩,bc.2⟩
 .rw[bc.1.2 bE] at h;cases h
 .cases O:bb with
  | false=>rfl
  | true=>exact absurd (bc.1.1 O) h
theorem yU(A:Mt)(n c:Nat)(l:List al)(u:aA)(p:UV)(o k:Nat)(w:World)(hl:Sl w (aq w) A n (l.map dh))(hn:n<=9223372036854775807)(hu:p.Ok w u)(bi:u.procs.length<=100000)(bh:∀q∈u.procs,q.code.length<=100000)(m:au w o 34 (p.val u))(z:au w k 3 #[.int .i64 (elems u.af)])(b1:∀f∈l,f.an.length<=9223372036854775807) :
  Calls prog 44 #[.slice A n c,.func (.func 21) #[] #[.pointer (some ⟨o,0,none⟩),.pointer (some ⟨k,0,none⟩)]] w (zu w l (λf=>¬eI u f)):=by
 have cg:l.length=n:=by have:=hl.1;simpa using this
 have bX:=ag cg hl;have bU:=dm hu m z bi bh b1;clear hu m z bi bh b1;clear cg hl;go_enter func44,ntmps44;go_wp2_with(fail);go_loopw [8] (λcA wr=>∃i:Nat,cA=.int .i64 i/\i<=n/\Ext w wr/\∀j x,j<i->l[j]?=some x->¬(λf=>¬eI u f) x) (λcA _=>n - (intOf cA).toNat)
 case atStart=>exact⟨0,rfl,ad,Mo,λj x bd=>ad⟩
 case round=>
  obtain⟨i,rfl,aX,aw,P⟩:=hrel;have br:=ag aw P;by_cases an:i<n
  .obtain⟨cm,da,f,IA,x,ic,bw,y,lc,rfl,cy,H,c0,c1,c2,c3,cH,cx,aQ,ce⟩:=(bX.2.on (Fr.ext aw)).rL an;have a3:y=f.an.length:=by have:=ce.1;simpa using this.symm
   have cU:=az aQ ce (show y<=9223372036854775807 by rw[a3];exact bU.2.2.2.2.2 f (LN H));have bN:=ae H;have a1:cm<wr:=cy;clear H cy aQ ce cH cx a3;clear aw P;go_wp2_with(fail);refine(D8 u f p o k IA bw x ic y lc wr (bU.1.on br.1) bU.2.2.2.1 bU.2.2.2.2.1 cU.1 cU.2.1 cU.2.2 (bU.2.1.aj br.1) (bU.2.2.1.aj br.1)).mono ?_;exact DR
  .obtain rfl:i=n:=ad;exact DW
theorem yT(A:Mt)(n c:Nat)(l:List al)(u:aA)(p:UV)(o k:Nat)(w:World)(hl:Sl w (aq w) A n (l.map dh))(hn:n<=9223372036854775807)(hu:p.Ok w u)(bi:u.procs.length<=100000)(bh:∀q∈u.procs,q.code.length<=100000)(m:au w o 34 (p.val u))(z:au w k 3 #[.int .i64 (elems u.af)])(b1:∀f∈l,f.an.length<=9223372036854775807) :
  Calls prog 20 #[.slice A n c,.func (.func 21) #[] #[.pointer (some ⟨o,0,none⟩),.pointer (some ⟨k,0,none⟩)]] w (h4 w (∃x∈l,(λf=>¬eI u f) x)):=by
 have b5:=ae (yU A n c l u p o k w hl hn hu bi bh m z b1);clear hl hu bi bh m z b1;go_enter func20,ntmps20;exact DX
theorem yD(u:aA)(p:UV)(o k:Nat)(A:Mt)(n c:Nat)(l:List al)(w:World)(hl:Sl w (aq w) A n (l.map dh))(hn:n<=9223372036854775807)(hu:p.Ok w u)(bi:u.procs.length<=100000)(bh:∀q∈u.procs,q.code.length<=100000)(m:au w o 34 (p.val u))(z:au w k 3 #[.int .i64 (elems u.af)])(b1:∀f∈l,f.an.length<=9223372036854775807) :
  Calls prog 19 #[.agg #[.slice A n c],.pointer (some ⟨o,0,none⟩),.pointer (some ⟨k,0,none⟩)] w (h4 w (∃f∈l,¬eI u f)):=by
 have bt:=gr hl hu m z bi bh b1;clear hl hu m z bi bh b1;go_enter func19,ntmps19;go_upto_region 1 with(fail);generalize ba:World.alloc _ _=W;have aw:=aU ba;have bZ:=aI ba;have ah:=ae aw;obtain⟨bq,am,aG⟩:=bZ.two;clear ba aw bZ;go_wp2_with(fail);refine(yT A n c l u p o k W (bt.1.on (Fr.ext ah.o)) hn (bt.2.1.on ah.o) bt.2.2.2.2.1 bt.2.2.2.2.2.1 (bt.2.2.1.aj ah.o) (bt.2.2.2.1.aj ah.o) bt.2.2.2.2.2.2).mono ?_;rintro e aT ⟨bb,rfl,aB,aW⟩;have bc:=ag aB (ah.trans aW);clear aB aW bq am aG;go_wp2_with(fail);go_ret;exact⟨bb,rfl,bc.1,bc.2⟩
theorem wu(A:Mt)(n c:Nat)(l:List (List al))(u:aA)(p:UV)(o k:Nat)(w:World)(hl:Sl w (aq w) A n (l.map fI))(hn:n<=9223372036854775807)(hu:p.Ok w u)(bi:u.procs.length<=100000)(bh:∀q∈u.procs,q.code.length<=100000)(m:au w o 34 (p.val u))(z:au w k 3 #[.int .i64 (elems u.af)])(b1:∀t∈l,t.length<=9223372036854775807/\∀f∈t,f.an.length<=9223372036854775807) :
  Calls prog 43 #[.slice A n c,.func (.func 19) #[] #[.pointer (some ⟨o,0,none⟩),.pointer (some ⟨k,0,none⟩)]] w (zu w l (λt=>∃f∈t,¬eI u f)):=by
 have cg:l.length=n:=by have:=hl.1;simpa using this
 have bX:=ag cg hl;have bU:=dm hu m z bi bh b1;clear hu m z bi bh b1;clear cg hl;go_enter func43,ntmps43;go_wp2_with(fail);go_loopw [8] (λcA wr=>∃i:Nat,cA=.int .i64 i/\i<=n/\Ext w wr/\∀j x,j<i->l[j]?=some x->¬(λt=>∃f∈t,¬eI u f) x) (λcA _=>n - (intOf cA).toNat)
 case atStart=>exact⟨0,rfl,ad,Mo,λj x bd=>ad⟩
 case round=>
  obtain⟨i,rfl,aX,aw,P⟩:=hrel;have br:=ag aw P;by_cases an:i<n
  .obtain⟨cm,da,f,FA,x,fc,rfl,cy,H,c0,aJ,cI⟩:=(bX.2.on (Fr.ext aw)).m4 an;have aY:x=f.length:=by have:=cI.1;simpa using this.symm
   have b1:=bU.2.2.2.2.2 f (LN H);have cU:=az cI (show x<=9223372036854775807 by rw[aY];exact b1.1) b1.2;have bN:=ae H;have a1:cm<wr:=cy;clear H cy cI aJ aY b1;clear aw P;go_wp2_with(fail);refine(yD u p o k FA x fc f wr cU.1 cU.2.1 (bU.1.on br.1) bU.2.2.2.1 bU.2.2.2.2.1 (bU.2.1.aj br.1) (bU.2.2.1.aj br.1) cU.2.2).mono ?_;exact DR
  .obtain rfl:i=n:=ad;exact DW
theorem wk(A:Mt)(n c:Nat)(l:List (List al))(u:aA)(p:UV)(o k:Nat)(w:World)(hl:Sl w (aq w) A n (l.map fI))(hn:n<=9223372036854775807)(hu:p.Ok w u)(bi:u.procs.length<=100000)(bh:∀q∈u.procs,q.code.length<=100000)(m:au w o 34 (p.val u))(z:au w k 3 #[.int .i64 (elems u.af)])(b1:∀t∈l,t.length<=9223372036854775807/\∀f∈t,f.an.length<=9223372036854775807) :
  Calls prog 18 #[.slice A n c,.func (.func 19) #[] #[.pointer (some ⟨o,0,none⟩),.pointer (some ⟨k,0,none⟩)]] w (h4 w (∃x∈l,(λt=>∃f∈t,¬eI u f) x)):=by
 have b5:=ae (wu A n c l u p o k w hl hn hu bi bh m z b1);clear hl hu bi bh m z b1;go_enter func18,ntmps18;exact DX
theorem Eb(ei:vo)(U:hO)(nk:Int)(F:List aL)(b:ao)(G:Env)(d:Nat)(l:List dQ)(n:Int)(st:Nat)(code:List aC)(sites:List Int)(g B:Nat)(bw:Mt)(ln lc:Nat)(S:Mt)(b2:Nat)(bV:Mt)(bD:Nat)(A:Mt)(m c:Nat)(w:World)(bt:Mw (Sl w (off (Ms g (.slice S code.length b2) (.slice bV sites.length bD)) w) A m (b.list.map bj)))(b5:Mw (∀s∈b.list,lN U nk F s.th/\lN U nk F s.el))(dW:Mw (∀f∈F,f.params.length<=1000))(bF:Mw (b.list.length=m))(fg:m<=100000)(e0:st+b.num<=100000)(dB:Exit->Act->World->Prop)(hQ0:∀c a d v w,dB (.panic c) (a.put d v) w->dB (.panic c) a w)(x:∀r j,FO U nk F b G d l n st code sites g B bw ln lc S b2 bV bD A m c w r j->dB (.exit 0) r j)
  (a:Act) (wr:World) (hI:iW U nk F b G d l n st code sites g B bw ln lc S b2 bV bD A m c w a wr):Code.wp prog sP (Exit.then (λr j=>iW U nk F b G d l n st code sites g B bw ln lc S b2 bV bD A m c w r j/\jv m r j<jv m a wr) dB) a wr:=by
 unfold iW at hI
 iterate 240 obtain⟨_,hI⟩:=hI
 obtain⟨hI,rfl⟩:=hI;have e:=hI;obtain⟨k,rest,aP,bc,ba,a6,ab,u,y,bi,aR,bQ,Y,ah,al,aH,rfl,aj,br,bC,aw,a8,hS,bx,bh,cf,cg,bE,bG,hM⟩:=hI;by_cases an:k<m
 .suffices aQ:BK rest from aQ ei U nk F b G d l n st code sites g B bw ln lc S b2 bV bD A m c w bt b5 dW bF fg e0 k aP bc ba a6 ab u y bi aR bQ Y ah al aH wr an br bC aw a8 hS bx bh cf cg bE bG hM dB hQ0
  exact Iu rest
 .obtain rfl:m=k:=ad;have bn:=ae e;clear e br bC aw a8 hS bx bh cf cg bE bG hM;conv=>arg 2;whnf
  go_wp2;unfold FO
  iterate 240 apply Exists.intro
  exact⟨bn.o,rfl,rfl⟩
theorem F5(ei:vo)(U:hO)(nk:Int)(F:List aL)(b:ao)(G:Env)(d:Nat)(l:List dQ)(n:Int)(st:Nat)(code:List aC)(sites:List Int)(g B:Nat)(bw:Mt)(ln lc:Nat)(S:Mt)(b2:Nat)(bV:Mt)(bD:Nat)(A:Mt)(m c:Nat)(w:World)(bt:Mw (Sl w (off (Ms g (.slice S code.length b2) (.slice bV sites.length bD)) w) A m (b.list.map bj)))(b5:Mw (∀s∈b.list,lN U nk F s.th/\lN U nk F s.el))(dW:Mw (∀f∈F,f.params.length<=1000))(bF:Mw (b.list.length=m))(fg:m<=100000)(e0:st+b.num<=100000)(dB:Exit->Act->World->Prop)(hQ0:∀c a d v w,dB (.panic c) (a.put d v) w->dB (.panic c) a w)(x:∀r j,FO U nk F b G d l n st code sites g B bw ln lc S b2 bV bD A m c w r j->dB (.exit 0) r j)
  (wr:World) {gR gV fn u8 gS eW bK gw gv cc eX eY eZ e3 e4 e5 e6 e7 e8 e9 fa fb fd u32 fe ff fi fj fk fl fp fq fr fs ft fu fv fw fx fz fA fB fC fD fE fF fG fI fJ fK fL fM fN fO fP u64 fR fS fT fU fV fW fX fY fZ f3 f4 f5 f6 f7 f8 f9 ga gb gd ge gf gg gh gi gj gk gl gm go gp gq gr gs gt gu H I am aG aK aM aU a4 bb bf bm bo bp bq bu bz bB bI bW b6 b9 ca cd cj ck cm cq cu cw cy cB cE cF cH cK cM cN cO cQ cR cT cV cW cX cY c4 c5 c6 c7 c8 c9 da db dc dd de df dg dh di dj dk dl dm dn dp dr ds dt du dv dw dx dy dz dA dD dE dF dG dH dI dJ dK dL dM dO dP dR dS dT dU dV dY dZ d0 d1 d2 d3 d4 d5 d6 d7 d8 d9 ea eb ec ed ee ef eg eh ej ek el em en eo ep eq er es et ev ew ex ey ez eA eB eC eD eE eF eG eH eI eK eL eM eN eO eP eQ eR eT eU eV:Value} (hI:oy U nk F b G d l n st code sites g B bw ln lc S b2 bV bD A m c w gR wr):Code.wp prog (Code.loop sP) dB ⟨#[.pointer (some ⟨g,0,none⟩),.slice A m c,undef,undef,.slice bw ln lc,gR,gV,fn,u8,gS,eW,bK,gw,gv,cc,.pointer (some ⟨g,0,none⟩),.pointer (some ⟨g,0,none⟩),.pointer (some ⟨g,3,none⟩),.slice bw ln lc,eX,eY,eZ,e3,e4,e5,e6,e7,e8,e9,fa,fb,fd,u32,fe,ff,fi,fj,fk,fl,fp,fq,fr,fs,ft,fu,fv,fw,fx,fz,fA,fB,fC,fD,fE,fF,fG,fI,fJ,fK,fL,fM,fN,fO,fP,u64,fR,fS,fT,fU,fV,fW,fX,fY,fZ,f3,f4,f5,f6,f7,f8,f9,ga,gb,gd,ge,gf,gg,gh,gi,gj,gk,gl,gm,go,gp,gq,gr,gs,gt,gu,H,I,am,aG,aK,aM,aU,a4,bb,bf,bm,bo,bp,bq,bu,bz,bB,bI,bW,b6,b9,ca,cd,cj,ck,cm,cq,cu,cw,cy,cB,cE,cF,cH,cK,cM,cN,cO,cQ,cR,cT,cV,cW,cX,cY,c4,c5,c6,c7,c8,c9,da,db,dc,dd,de,df,dg,dh,di,dj,dk,dl,dm,dn,dp,dr,ds,dt,du,dv,dw,dx,dy,dz,dA,dD,dE,dF,dG,dH,dI,dJ,dK,dL,dM,dO,dP,dR,dS,dT,dU,dV,dY,dZ,d0,d1,d2,d3,d4,d5,d6,d7,d8,d9,ea,eb,ec,ed,ee,ef,eg,eh,ej,ek,el,em,en,eo,ep,eq,er,es,et,ev,ew,ex,ey,ez,eA,eB,eC,eD,eE,eF,eG,eH,eI,eK,eL,eM,eN,eO,eP,eQ,eR,eT,eU,eV,undef,undef,undef,undef],[]⟩ wr:=by
 refine wp_loop (iW U nk F b G d l n st code sites g B bw ln lc S b2 bV bD A m c w) (jv m) ?_ (λa j hI=>Eb ei U nk F b G d l n st code sites g B bw ln lc S b2 bV bD A m c w bt b5 dW bF fg e0 dB hQ0 x a j hI);unfold iW
 iterate 240 apply Exists.intro
 exact⟨hI,rfl⟩
theorem v5(ei:vo)(U:hO)(nk:Int)(F:List aL)(b:ao)(Z:∀s∈b.list,lN U nk F s.th/\lN U nk F s.el):lN U nk F b:=by
 intro G d l V T n st code sites g B bw ln lc S b2 bV bD A m c w a8 hS bx f h hs bh cf cg e0 bE;have cj:b.list.length=m:=by rw[<-hs.1,cK,LO]
 have fg:m<=100000:=by have:=gV b;omega
 rw[cK] at hs;obtain⟨GA,gn,gc,MA,mn,mc,FA,fn,fc,aQ,_⟩:=h.blk;obtain⟨bt,b5,dW,bF⟩:=iY hs Z f cj;obtain⟨bq,am,aG⟩:=aQ.two;have a3:=ae (show oy U nk F b G d l n st code sites g B bw ln lc S b2 bV bD A m c w (.int .i64 0) w from
  ⟨0,b,l,V,T,n,st,code,sites,bw,ln,lc,S,b2,bV,bD,rfl,ad,rfl,rfl,rfl,a8,hS,bx,bh,cf,cg,bE,h,Mv.refl _ _ _ _⟩)
 have b6:=ag h.names.1 h.names.2;clear hs Z a8 hS bx f h bh cf cg bE aQ cj;go_enter func71,ntmps71;go_wp2;clear bq am aG;refine F5 ei U nk F b G d l n st code sites g B bw ln lc S b2 bV bD A m c w bt b5 dW bF fg e0 _ ?hQ ?hX _ a3.o
 case hQ=>exact λ_ _ d _ _ h=>by cases d<;>exact h
 case hX=>
  intro r wr e;unfold FO at e
  iterate 240 obtain⟨_,e⟩:=e
  obtain⟨hI,i,rfl⟩:=e;obtain⟨k,rest,aP,bc,ba,a6,ab,u,y,bi,aR,bQ,Y,ah,al,aH,j,aj,br,bC,aw,a8,hS,bx,bh,cf,cg,bE,bG,hM⟩:=hI;have M:m=k:=by
   rw[j] at i;injection i with _ ac;omega
  subst M;clear a3 j i;obtain⟨bg,bJ,aY,ey,gq,eE,cD,f3,ck,aQ,_⟩:=bG.blk;have cd:rest.list=[]:=br▸Mk (by rw[bF.o];exact LK _);obtain rfl:rest=.nil:=by cases rest<;>simp_all [ao.list]
  have d0:dN b l n code=(u,a6):=bC.symm;obtain⟨bq,am,aG⟩:=aQ.two;obtain⟨HA,cU⟩:=aJ bG hM;clear bG hM aQ;go_wp2;generalize hX:World.setCell _ _ _=X;obtain⟨eX,dR⟩:=HA.EZ b6.1 (b6.2.cT cU.o) hX;have fj:=cU.trans dR;clear bq am aG hX dR;rw[d0];refine bodyPost_end (v:=.tuple #[]) (by simp[results,Tryz.results71,go_sem]) rfl ?_;obtain rfl:ab=st+b.num:=by simp only[ao.num] at aw;omega
  exact⟨rfl,Y,ah,al,aH,y,cf,eX,fj⟩
theorem yE(ei:vo)(U:hO)(nk:Int)(F:List aL):∀b:ao,lN U nk F b:=ao.Ec (C:=lN U nk F) λb Z=>v5 ei U nk F b Z
def yd(a b:Nat):List Nat:=(bif a == 0 then [0] else bif a == 1 then [3] else bif a == 2 then [6] else bif a == 3 then [8] else [])++(bif b == 0 then [18] else bif b == 1 then [20] else bif b == 2 then [22] else [])
def gZ:Nat->Nat->Nat->PT
 | 0,_,_=>.stop
 | n+1,a,b=>bif a == 4 && b == 3 then .free 23 (.pick [24] λ_=>.stop) else .pick (yd a b) λi=>
   bif i == 0 then gZ n 1 b else bif i == 3 then gZ n 2 b else bif i == 6 then .free 7 (gZ n 3 b) else bif i == 8 then gZ n 4 b else bif i == 18 then .free 19 (gZ n a 1) else bif i == 20 then .free 21 (gZ n a 2) else gZ n a 3
abbrev wS(W w:World)(E:List Nat):Nat->Prop:=λk=>W.heap.size<=k/\k<w.heap.size/\k∉E
structure Jg(W:World)(gs:List Int)(gn m:Nat)(w:World)(a:Nat)(cr v6 bt v10 v11:Value)(E:List Nat):Prop where
 g:(a=0/\E=[]/\iA 3 1 gn (gs.map cW) w 0 cr v6 [])\/(a=1/\iA 3 1 gn (gs.map cW) w 1 cr v6 E)\/(2<=a/\E=[]/\∃F,iA 3 1 gn (gs.map cW) w 2 cr v6 F/\∀k∈F,W.heap.size<=k/\k<w.heap.size)
 o:3<=a->v10=.int .i64 (m:Int)
 t:4<=a->∃A,v11=.slice A m m/\Sl w (wS W w []) A m ((List.replicate m ⟨0,0⟩).map ky)
 e:∀k∈E,W.heap.size<=k/\k<w.heap.size
structure I4(W:World)(mi:Int)(L:Nat)(w:World)(b:Nat)(q s y z H:Value)(E:List Nat):Prop where
 i:1<=b->∃A,q=.slice A L L/\Sl w (wS W w E) A L ((List.replicate L 0).map D.i)/\s=.agg #[.int .i64 mi,.int .i64 0,.slice A L L,.slice none 0 0]
 f:2<=b->∃A,y=.slice A 1 1/\Sl w (wS W w E) A 1 ([(⟨mi,0,List.replicate L 0,[]⟩:al)].map dh)/\z=.agg #[.slice A 1 1]
 h:3<=b->∃A,H=.slice A 1 1/\Sl w (wS W w E) A 1 ([[(⟨mi,0,List.replicate L 0,[]⟩:al)]].map fI)
theorem Jg.ai{W:World}{gs:List Int}{gn m a:Nat}{w ab:World}{cr v6 bt v10 v11:Value}{E:List Nat}(h:Jg W gs gn m w a cr v6 bt v10 v11 E)(aw:Ext w ab):Jg W gs gn m ab a cr v6 bt v10 v11 E:=by
 have aj:∀k,k<w.heap.size->ab.heap[k]?=w.heap[k]?:=λk aj=>aw.block k aj λh=>h;have hs:=aw.size;refine⟨?_,h.o,λaZ=>?_,λk aj=>⟨(h.e k aj).1,by have:=(h.e k aj).2;omega⟩⟩
 .rcases h.g with⟨ac,ap,aV⟩|⟨ac,ap⟩|⟨ac,ap,F,aV,bz⟩
  .exact .inl ⟨ac,ap,aV.ai λk aj=>by simp at aj⟩
  .exact .inr (.inl ⟨ac,ap.ai λb O=>aj b (h.e b O).2⟩)
  .exact .inr (.inr ⟨ac,ap,F,aV.ai λb O=>aj b (bz b O).2,λk aj=>⟨(bz k aj).1,by have:=(bz k aj).2;omega⟩⟩)
 .obtain⟨A,ac,ap⟩:=h.t aZ;exact⟨A,ac,(ap.ai λb O=>aj b O.2.1).mono λb O=>⟨O.1,by have:=O.2.1;omega,O.2.2⟩⟩
theorem I4.ai{W:World}{mi:Int}{L b:Nat}{w ab:World}{q s y z H:Value}{E a:List Nat}(h:I4 W mi L w b q s y z H E)(hs:w.heap.size<=ab.heap.size)(aj:∀k,W.heap.size<=k->k<w.heap.size->k∉E->ab.heap[k]?=w.heap[k]?/\k∉a):I4 W mi L ab b q s y z H a:=by
 have ce:∀b,wS W w E b->ab.heap[b]?=w.heap[b]?:=λb O=>(aj b O.1 O.2.1 O.2.2).1;have hm:∀b,wS W w E b->wS W ab a b:=λb O=>⟨O.1,by have:=O.2.1;omega,(aj b O.1 O.2.1 O.2.2).2⟩
 refine⟨λO=>?_,λO=>?_,λO=>?_⟩
 .obtain⟨A,ac,ap,aV⟩:=h.i O;exact⟨A,ac,(ap.ai ce).mono hm,aV⟩
 .obtain⟨A,ac,ap,aV⟩:=h.f O;exact⟨A,ac,(ap.ai ce).mono hm,aV⟩
 .obtain⟨A,ac,ap⟩:=h.h O;exact⟨A,ac,(ap.ai ce).mono hm⟩
theorem Gw{ops:Array Oper}{Q:Exit->Act->World->Prop}{W:World}{gs:List Int}{gn gc mn mc L ws:Nat}{GA MA:Mt}{mi:Int}{X:List bM}{ci aK a4 av ax J N Y aa af ag ah ai:Value}{a0 a3 a6 a7 a8 a18 a19 a20 a21 a22:Array Edge}{p0 p3 p6 p7 p8 p18 p19 p20 p21 p22:String}
  (hG:Sl W (aq W) GA gn (gs.map D.i)) (sZ:gn<=100000) (hM:cw (EF gu) 3 W W.heap.size MA mn X) (hX:mr X) (bD:L<=100000) (od:ws<=W.heap.size)
  (o0:ops[0]?=some ⟨some 3,.buildSlice 22 0 #[],22,p0,a0,none⟩)
  (o3:ops[3]?=some ⟨some 6,.call {callee:=.builtin .append,args:=#[.tmp 3,.tmp 5],argTypes:=#[22,22]},22,p3,a3,none⟩)
  (o6:ops[6]?=some ⟨some 9,.call {callee:=.value (.func 47),args:=#[.tmp 8],argTypes:=#[28]},22,p6,a6,none⟩)
  (o7:ops[7]?=some ⟨some 10,.call {callee:=.builtin .len,args:=#[.tmp 9],argTypes:=#[22]},3,p7,a7,none⟩)
  (o8:ops[8]?=some ⟨some 11,.makeSlice 23 (.tmp 10) (.tmp 10),23,p8,a8,none⟩)
  (Kl:ops[18]?=some ⟨some 21,.makeSlice 22 (.tmp 20) (.tmp 20),22,p18,a18,none⟩)
  (Km:ops[19]?=some ⟨some 22,.build 50 #[(0,.tmp 13),(2,.tmp 21)],50,p19,a19,none⟩)
  (Kn:ops[20]?=some ⟨some 23,.buildSlice 44 1 #[(0,.tmp 22)],44,p20,a20,none⟩)
  (Ko:ops[21]?=some ⟨some 24,.build 46 #[(0,.tmp 23)],46,p21,a21,none⟩)
  (Kp:ops[22]?=some ⟨some 25,.buildSlice 24 1 #[(0,.tmp 24)],24,p22,a22,none⟩)
  (kz:∀cr v6 bt v10 v11 q s y z H E w,Ext W w->Jg W gs gn (own X).length w 4 cr v6 bt v10 v11 E->I4 W mi L w 3 q s y z H E->cS prog ops Q (Fr (λk=>¬k<ws)) [24] (.free 23 (.pick [24] λ_=>.stop)) ⟨#[ci,aK,a4,cr,av,.slice GA gn gc,v6,ax,.slice MA mn mc,bt,v10,v11,J,mi,N,Y,aa,af,ag,ah,L,q,s,y,z,H,ai],[]⟩ w) :
  ∀(n a b:Nat),a<=4->b<=3->8<=n+a+b->∀cr v6 bt v10 v11 q s y z H E w,Ext W w->Jg W gs gn (own X).length w a cr v6 bt v10 v11 E->I4 W mi L w b q s y z H E->
   cS prog ops Q (Fr (λk=>¬k<ws)) [24] (gZ n a b) ⟨#[ci,aK,a4,cr,av,.slice GA gn gc,v6,ax,.slice MA mn mc,bt,v10,v11,J,mi,N,Y,aa,af,ag,ah,L,q,s,y,z,H,ai],[]⟩ w:=by
 intro n
 induction n with
 | zero=>intro a b aZ O hn;omega
 | succ n Z=>
  intro a b aZ O hn cr v6 bt v10 v11 q s y z H E w aw bG aQ;unfold gZ
  cases aA:(a == 4 && b == 3) with
  | true=>
   simp only[LY,beq_iff_eq] at aA;obtain⟨rfl,rfl⟩:=aA
   exact kz _ _ _ _ _ _ _ _ _ _ _ _ aw bG aQ
  | false=>
  have R:=aw.size;have G:∀o:Obj,Fr (λk=>¬k<ws) w (w.alloc o):=λo=>Mo.alloc o;have U:∀o:Obj,(w.alloc o).heap.size=w.heap.size+1:=λo=>World.kV w o;have C:∀o:Obj,Ext W (w.alloc o):=λo=>aw.alloc o;have bm:∀o:Obj,Ext w (w.alloc o):=λo=>Mo.alloc o;have be:∀o:Obj,I4 W mi L (w.alloc o) b q s y z H E:=λo=>aQ.ai (by rw[U];omega) λk _ aj hn=>⟨Below.heap_alloc w o k aj,hn⟩
  intro i aX;simp only[yd,LU] at aX;rcases aX with aX|aX
  .have cI:a=0\/a=1\/a=2\/a=3\/a=4:=ad;rcases cI with rfl|rfl|rfl|rfl|rfl
   ·
    have i0:i=0:=by simpa using aX
    subst i0;obtain⟨a2,a5⟩:E=[]/\iA 3 1 gn (gs.map cW) w 0 cr v6 []:=by
     rcases bG.g with⟨_,ap,aV⟩|⟨ac,_⟩|⟨ac,_⟩
     .exact⟨ap,aV⟩
     .omega
     .omega
    subst a2;obtain⟨_,_,df⟩:=a5.begin rfl;refine⟨_,o0,λK hK=>?_⟩;rw[if_pos (by rfl)];refine FJ (hK _ _ (λ_=>G _) ?_)
    try simp only[PU]
    refine Z 1 b ad O ad _ _ _ _ _ _ _ _ _ _ [w.heap.size] _ (C _) ⟨.inr (.inl ⟨rfl,df⟩),λh=>ad,λh=>ad,λk aj=>?_⟩ (aQ.ai (by rw[U];omega) λk _ aj hn=>⟨Below.heap_alloc w _ k aj,λh=>by have:=Mi.1 h;omega⟩);rw[U];have:=Mi.1 aj;omega
   ·
    have i0:i=3:=by simpa using aX
    subst i0;have a5:iA 3 1 gn (gs.map cW) w 1 cr v6 E:=by
     rcases bG.g with⟨ac,_⟩|⟨_,aV⟩|⟨ac,_⟩
     .omega
     .exact aV
     .omega
    refine⟨_,o3,λK hK=>?_⟩;rw[if_pos (by rfl)];refine iA.fill a5 cF (.tmp 3) (.tmp 5) rfl rfl rfl (by have:=Src.jL (hG.on (Fr.ext aw)).ints (gA _) (iO _) ad;rwa [n9] at this) ad ad (λh=>by subst h;exact hG.none_) (λv ab S df cg aW r=>?_);have b2:=cg.size;have l:∀k∈E,W.heap.size<=k:=λk aj=>(bG.e k aj).1;have u:Ext W ab:=Fr.low (M:=λk=>k∈E) (Fr.trans (Fr.mono aw λ_ h=>h.elim) cg) l;refine hK _ _ (λ_=>cg.mono λk aj=>by have:=l k aj;omega) ?_
    try simp only[PU]
    refine Z 2 b ad O ad _ _ _ _ _ _ _ _ _ _ [] _ u ⟨.inr (.inr ⟨ad,rfl,S,df,λk aj=>?_⟩),λh=>ad,λh=>ad,λk aj=>by simp at aj⟩ (aQ.ai b2 λk _ aj hn=>⟨cg.block k aj hn,by simp⟩);have ac:=r k aj;have:W.heap.size<=k:=by rcases ac.1 with ap|ap;exact l k ap;omega
    omega
   ·
    have i0:i=6:=by simpa using aX
    subst i0;refine⟨_,o6,λK hK=>?_⟩;rw[if_pos (by rfl)];go_simp;refine(ka MA mn mc X w (hM.cZ (Fr.ext aw) (Fr.ext aw).size) hX).mono ?_;rintro e ab ⟨I,aE,rfl,hc,hs,a1⟩;have d:Ext w ab:=Fr.of a1;refine hK _ _ (λ_=>Fr.mono d λ_ h=>h.elim) ?_
    try simp only
    show cS _ _ _ _ _ (.free 7 (gZ n 3 b)) _ _
    refine ly (v:=?_) o7 (by rfl) (λV=>?_) ?_;rotate_left
    ·(go_simp<;>with_reducible rfl)
    try simp only[PU]
    have am:=bG.ai d;have aR:2<=2/\E=[]/\∃F,iA 3 1 gn (gs.map cW) ab 2 cr v6 F/\∀k∈F,W<=k/\k<ab:=by
     rcases am.g with⟨ac,_⟩|⟨ac,_⟩|aV
     .omega
     .omega
     .exact aV
    exact Z 3 b ad O ad _ _ _ _ _ _ _ _ _ _ E _ (aw.trans d) ⟨.inr (.inr ⟨ad,aR.2⟩),λ_=>rfl,λh=>ad,am.e⟩ (aQ.ai d.size λk _ aj hn=>⟨d.block k aj λh=>h,hn⟩)
   ·
    have i0:i=8:=by simpa using aX
    subst i0;have c:=bG.o ad;subst c;have hm:=cm hX;have dE:=λW=>run_mk (P:=prog) k1 .i64 .i64 (own X).length ad ad W;have ao:=wU (e:=79) (f:=bO) (x:=⟨0,0⟩) (zc:=#[.int .i64 0,.int .i64 0]) (sz:=2) rfl rfl ad (own X).length ad (w:=w) (base:=w.heap.size) (LK _);refine⟨_,o8,λK hK=>?_⟩;rw[if_pos (by rfl)];have ch:=ae ao;clear ao;go_simp;refine hK _ _ (λ_=>G _) ?_
    try simp only
    have am:=bG.ai (bm (.cells (madeCells #[(0:Int),(0:Int)] ((own X).length*2)) 79));have aR:2<=3/\E=[]/\∃F,iA 3 1 gn (gs.map cW) (w.alloc (.cells (madeCells #[(0:Int),(0:Int)] ((own X).length*2)) 79)) 2 cr v6 F/\∀k∈F,W<=k/\k<(w.alloc (.cells (madeCells #[(0:Int),(0:Int)] ((own X).length*2)) 79)).heap.size:=by
     rcases am.g with⟨ac,_⟩|⟨ac,_⟩|aV
     .omega
     .omega
     .exact aV
    refine Z 4 b ad O ad _ _ _ _ _ _ _ _ _ _ E _ (C _) ⟨.inr (.inr ⟨ad,aR.2⟩),λ_=>rfl,λ_=>⟨_,rfl,?_⟩,am.e⟩ (be _);exact Sl.mQ ch.o (dH _) (by simp) λg _ ac ap=>⟨ad,ap,by simp⟩
   .simp at aX
  .have cI:b=0\/b=1\/b=2\/b=3:=ad;rcases cI with rfl|rfl|rfl|rfl
   ·
    have i0:i=18:=by simpa using aX
    subst i0;have dE:=λW=>run_mk (P:=prog) cF .i64 .i64 L ad ad W;have ao:=wU (e:=3) (f:=cO) (x:=0) (zc:=#[.int .i64 0]) (sz:=1) rfl rfl ad L ad (w:=w) (base:=w.heap.size) (LK _);rw[n9,Nat.mul_one] at ao;have ch:=ae ao;clear ao;refine⟨_,Kl,λK hK=>?_⟩;rw[if_pos (by rfl)];go_simp;refine hK _ _ (λ_=>G _) ?_
    try simp only
    show cS _ _ _ _ _ (.free 19 (gZ n a 1)) _ _
    refine ly (v:=?_) Km (by rfl) (λV=>?_) ?_;rotate_left
    ·(go_simp<;>with_reducible rfl)
    try simp only[PU]
    refine Z a 1 aZ ad ad _ _ _ _ _ _ _ _ _ _ E _ (C _) (bG.ai (bm _)) ⟨λ_=>⟨_,rfl,?_,rfl⟩,λh=>ad,λh=>ad⟩;exact Sl.mQ ch.o (bX _) (by simp) λg _ ac ap=>⟨ad,ap,λh=>by have:=(bG.e g h).2;omega⟩
   ·
    have i0:i=20:=by simpa using aX
    subst i0;obtain⟨A,ak,hs,al⟩:=aQ.i ad;subst ak al;refine⟨_,Kn,λK hK=>?_⟩;rw[if_pos (by rfl)];go_simp;refine hK _ _ (λ_=>G _) ?_
    try simp only
    show cS _ _ _ _ _ (.free 21 (gZ n a 2)) _ _
    refine ly (v:=?_) Ko (by rfl) (λV=>?_) ?_;rotate_left
    ·(go_simp<;>with_reducible rfl)
    try simp only[PU]
    have m:=be (.cells #[mi,(0:Int),.slice A L L,()] 50);obtain⟨A2,t,bS,_⟩:=m.i ad;injection t with t _ _;subst t;have T:=au.new w 50 #[mi,(0:Int),.slice A L L,()];refine Z a 2 aZ ad ad _ _ _ _ _ _ _ _ _ _ E _ (C _) (bG.ai (bm _)) ⟨λ_=>m.i ad,λ_=>⟨_,rfl,⟨rfl,λ_=>⟨w,0,_,rfl,⟨R,by rw[U];omega,λh=>by have:=(bG.e _ h).2;omega⟩,D.bg.2 (c7.2 ⟨A,L,L,none,0,0,rfl,LK _,LK _,bS,Sl.bS _⟩),λj v bd=>?_⟩⟩,rfl⟩,λh=>ad⟩;rw[L8,T.cell];simpa using bd
   ·
    have i0:i=22:=by simpa using aX
    subst i0;obtain⟨A,an,hs,ar⟩:=aQ.f ad;subst an ar;refine⟨_,Kp,λK hK=>?_⟩;rw[if_pos (by rfl)];go_simp;refine hK _ _ (λ_=>G _) ?_
    try simp only
    have m:=be (.cells #[.slice A 1 1] 46);obtain⟨A2,B,bS,_⟩:=m.f ad;injection B with B _ _;subst B;have T:=au.new w 46 #[.slice A 1 1];refine Z a 3 aZ ad ad _ _ _ _ _ _ _ _ _ _ E _ (C _) (bG.ai (bm _)) ⟨λ_=>m.i ad,λ_=>m.f ad,λ_=>⟨_,rfl,rfl,λ_=>⟨w,0,_,rfl,⟨R,by rw[U];omega,λh=>by have:=(bG.e _ h).2;omega⟩,D.bg.2 (dn.2 ⟨A,1,1,rfl,LK _,bS⟩),λj v bd=>?_⟩⟩⟩;rw[L8,T.cell];simpa using bd
   .simp at aX
end Go.Proofs.YtpkfopfkdgkfkaaGreat
