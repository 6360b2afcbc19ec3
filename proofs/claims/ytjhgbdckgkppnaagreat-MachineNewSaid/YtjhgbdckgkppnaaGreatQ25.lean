/- Part 25 of the proof (CloC LoP LoF LoE), without conditions of its own. -/
import Derived.Test.YtjhgbdckgkppnaaGreatQ15
namespace Go.Proofs.YtjhgbdckgkppnaaGreat
open Go.RowKit Go.Proofs.Tryz
set_option maxRecDepth 1000000
set_option maxHeartbeats 25600000
set_option linter.unusedVariables false
variable{cs:List Value}{P:Nat→Prop}{f:aG}
theorem DB{w X V:World}{g:Nat}{t:TypeId}{v0 v1 c0 c1:Value}(aT:ag V g t #[c0,c1])(av:Ext w V)(aM:w.heap.size≤g)(ah:(V.setCell ⟨g,0,none⟩ v0).setCell ⟨g,1,none⟩ v1=X):
  ag X g t #[v0,v1]∧Ext w X∧Fr (fun b=>b=g) V X:=by
 subst ah;exact⟨(aT.aH 0 v0).aH 1 v1,(av.setCell (.inr aM) _).setCell (.inr aM) _,((Fr.refl (fun b=>b=g) V).setCell (.inl rfl) _).setCell (.inl rfl) _⟩
theorem p9{u:aF}(hu:cU u){p:c5}(hp:p∈u.procs){c:aC}(hc:c∈p.code)(bi:c.op=2∨c.op=3):
  ∃q,0≤c.target∧u.procs[c.target.toNat]?=some q∧(c.places.length:Int)=q.av∧q.av≤100∧∀pl∈c.places,pl.param=true→0≤pl.index∧pl.index<p.av:=by
 obtain⟨s,hs,hl,y⟩:=(hu.procs p hp).code;rw[hs] at hc;rcases Gk.1 hc with hc|hc
 ·rcases y c hc with h|h|h|h|h|h
  ·omega
  ·obtain⟨_,_,sg,h0,k,aJ,cd,_,U⟩:=h;simp only[bs,List.getElem?_map] at k
   cases bu:u.procs[c.target.toNat]? with
   | none=>rw[bu] at k;cases k
   | some q=>
    rw[bu] at k;injection k with k;subst k;refine⟨q,h0,rfl,cd,(hu.procs q (Ge bu)).av.2,fun pl hm O=>?_⟩;have:=U pl hm;unfold cT at this;simp_all
  ·omega
  ·omega
  ·omega
  ·omega
 ·simp only[GH] at hc;subst hc;simp[lX] at bi
theorem nM(u:aF)(hu:cU u)(GA:GR)(gn gc:Nat)(MA:GR)(mn mc:Nat)(PA:GR)(pn pc:Nat)(x:gJ)(b4:GR)(b2 cu:Nat)(p:c5)(h0:0≤x.proc)(hp:u.procs[x.proc.toNat]?=some p)(bN:(x.av.length:Int)=p.av)
  (k:Nat) (ap:k<p.code.length) (w:World) (hU:gv w (au w) u GA gn MA mn PA pn) (ah:Sl w (au w) b4 b2 (x.av.map .i)) :
  Calls prog 79 #[.agg #[.slice GA gn gc,.slice MA mn mc,.slice PA pn pc,.int .i64 u.main],.agg #[.int .i64 x.proc,.slice b4 b2 cu],.int .i64 k] w
   fun e ab=>∃(ok:Bool) (y:gJ) (aS:GR) (cM cE:Nat),e=.returned (.tuple #[.agg #[.int .i64 y.proc,.slice aS cM cE],.bool ok])∧(ok=true→kG u y)∧cM≤cE∧Sl ab (fresh w ab) aS cM (y.av.map .i)∧Ext w ab:=by
 obtain⟨ek,c8⟩:=x;simp only at h0 hp bN ah ⊢;obtain⟨cY,rfl⟩:=Gg h0;rw[Gy] at hp;have ev:u.procs.length=pn:=by rw[←hU.p.1,Gf]
 have ed:cY<pn:=by have:=(List.getElem?_eq_some_iff.1 hp).1;omega
 have gm:pn≤16:=by have:=hu.AU;omega
 have a1:p.code.length≤201:=by
  obtain⟨s,hs,hl,_⟩:=(hu.procs p (Ge hp)).code;rw[hs];simp;omega
 have cn:=ae hu;have aJ:=ae hu;have dn:=ae hU;have cX:=ae ah;have b9:=ae hp;have H:=ae bN;have bm:=ae ap;clear hU ah hp bN h0 ev hu;go_enter func79,ntmps79;go_upto_region 1 with(fail);generalize bg:World.alloc _ _=W;have av:Ext w W:=bg▸((GN.alloc _).alloc _).alloc _;have aT:ag W w.heap.size 30 #[.slice GA gn gc,.slice MA mn mc,.slice PA pn pc,.int .i64 u.main]:=bg▸((GO).alloc _).alloc _;have bD:ag W (w.heap.size+1) 155 #[.int .i64 cY,.slice b4 b2 cu]:=bg▸(ag.bR _ _ _ (by simp)).alloc _;have bL:ag W (w.heap.size+2) 155 #[.int .i64 0,.slice none 0 0]:=bg▸ag.bR _ _ _ (by simp);have bh:=ae av;have a4:=ae aT;have bk:=ae bD;have bK:=ae bL;obtain⟨a0,al,af⟩:=aT.two;obtain⟨a7,am,aE⟩:=bD.two;obtain⟨a6,aL,aP⟩:=bL.two;clear bg av aT bD bL;obtain⟨bQ,op,dP,aV,ct,bX,rfl,bI,cf,p0,a2,dh,p3,dQ,Z,T⟩:=(dn.on bh.o).proc ed;obtain rfl:dP=p:=by rw[b9.o] at cf;injection cf with cf;exact cf.symm
 have gK:dP.code.length=ct:=by rw[←T.1,Gf]
 have az:k<ct:=ad;have aG:(0:Int)≤(k:Int):=ad;have bF:(k:Int)<(ct:Int):=ad;have eb:(0:Int)≤(cY:Int):=ad;have dJ:(cY:Int)<(pn:Int):=ad;obtain⟨bc,bj,c,cells,eo,en,es,EA,em,ec,QA,qm,qc,IA,i,ic,KA,m,bR,rfl,cP,hc,ca,aW⟩:=T.AE az;have r:=ae ca;have aj:=ae hc;have bP:=ca.cells;subst bP;have c0:=aW 0 _ rfl;have c1:=aW 1 _ rfl;have X:=aW 11 _ rfl;have a9:=ae T;clear aW T hc cf p0 a2 dh p3 gK ca;simp only[Gl] at c0;by_cases bi:c.op=2∨c.op=3
 case neg=>
  have di:(c.op != 2)=true:=by simp;omega
  have br:(c.op != 3)=true:=by simp;omega
  clear bi;go_wp2_with (fail);generalize cb:World.setCell _ _ _=Y;obtain⟨bA,bw,bb⟩:=DB bK.o bh.o ad cb;obtain⟨bx,bd,be⟩:=bA.two;refine GM (v:=.tuple #[.agg #[.int .i64 0,.slice none 0 0],.bool false]) (by simp[results,Tryz.results79,go_sem,bx]) rfl ?_;exact⟨false,⟨0,[]⟩,none,0,0,rfl,(fun h=>by cases h),Gb _,Sl.bu _,bw⟩
 case pos=>
  obtain⟨q,f,bu,o,a3,dw⟩:=p9 cn.o (Ge b9.o) (Ge aj.o) bi;have hm:c.places.length=m:=by have:=r.places.1;simpa using this
  have bT:=bO f bu o dw;have dK:m≤100:=ad;have dr:=ae hm;clear f bu o dw hm a3;rcases bi with bi|bi
  ·simp only[bi] at c0;exact CT
  ·simp only[bi] at c0;exact CT
section
variable {U:gu} {G:Env} {l:List dw} {V T:GS} {n nk:Int}
theorem Sc.fx(hS:Sc U G l V T n nk):∀(d:Nat) (x:VE),x.src V d→fx l x
 | d,.num k,h=>trivial
 | d,.ga s,h=>by
  have F:s∈V:=by cases d<;>exact h
  obtain⟨e,he,ap⟩:=hS.vars s F
  exact⟨e,he,ap.imp (fun h=>h.1) (fun h=>h.1)⟩
 | d,.loc _,h=>by cases d<;>exact h.elim
 | d,.hR _,h=>by cases d<;>exact h.elim
 | 0,.un _ _,h=>h.elim
 | 0,.bin _ _ _,h=>h.elim
 | d+1,.un op x,h=>⟨h.1,Sc.fx hS d x h.2⟩
 | d+1,.bin op x y,h=>⟨h.1,Sc.fx hS d x h.2.1,Sc.fx hS d y h.2.2⟩
theorem Sc.oC(hS:Sc U G l V T n nk)(r:d2)(h:pN G V r):oC U.af l r:=by
 rcases h with⟨m,hm,hn,ac,J⟩|⟨hp,aJ⟩
 ·obtain⟨e,he,ap,h0,hu⟩:=hS.E7 m hm;rw[hn] at he;exact⟨e,he,.inr ⟨ap,m,h0,hu,fun hs=>by obtain⟨x,hx,aC⟩:=ac hs;exact⟨x,hx,hS.fx 2 x aC⟩,J⟩⟩
 ·obtain⟨e,he,ap,_,_⟩:=hS.A0 _ hp;exact⟨e,he,.inl ⟨ap,aJ⟩⟩
end
def r4(F:List aG)(G:Env)(l:List dw):Prop:=∀s ps,(s,ps)∈G.funcs→∃(e:dw) (f:aG),dh l s=some e∧e.kind=3∧0≤e.n∧F[e.n.toNat]?=some f∧f.params=ps
theorem r4.app{F:List aG}{G:Env}{l:List dw}(h:r4 F G l)(x:dw):r4 F G (l++[x]):=fun s ps hs=>by
 obtain⟨e,f,he,r⟩:=h s ps hs;exact⟨e,f,iB he,r⟩
theorem Au{p:bC}(hp:mU p)(aw:f∈p.funcs):r4 p.funcs (gL p f) (bf p++dC f.params 0 0):=by
 intro s ps hs;have cl:((bf p++dC f.params 0 0).map (·.name)).Nodup:=by
  rw[Gi,e5,eZ];exact(hp.funcs f aw).fresh
 obtain⟨g,aM,bZ⟩:=GD.1 hs;injection bZ with cg an;subst cg an;obtain⟨i,aJ⟩:=List.getElem?_of_mem aM;have:=j1 cl (Gk.2 (.inl (by unfold bf;exact Gk.2 (.inr (g1 (·.name) 3 p.funcs 0 i g aJ)))));refine⟨_,g,this,rfl,by show (0:Int)≤((0+i:Nat):Int);omega,?_,rfl⟩;show p.funcs[(((0+i:Nat):Int)).toNat]?=some g
 rw[Gy,Gv];exact aJ
def ie(M:List bF)(l:List dw):List (ByteArray×Bool)→List cQ→Prop
 | [],[]=>True
 | p::ps,.mx r::aO=>(p.2=true∧oC M l r)∧ie M l ps aO
 | p::ps,.ex e::aO=>(p.2=false∧fx l e)∧ie M l ps aO
 | _,_=>False
theorem Sc.ie{U:gu}{G:Env}{l:List dw}{V T:GS}{n nk:Int}(hS:Sc U G l V T n nk):∀(ps:List (ByteArray×Bool)) (aO:List cQ),hN G V ps aO→ie U.af l ps aO
 | [],[],_=>trivial
 | p::ps,.mx r::aO,h=>⟨⟨h.1.1,hS.oC r h.1.2⟩,Sc.ie hS ps aO h.2⟩
 | p::ps,.ex e::aO,h=>⟨⟨h.1.1,hS.fx 2 e h.1.2⟩,Sc.ie hS ps aO h.2⟩
 | [],_::_,h=>h.elim
 | _::_,[],h=>h.elim
theorem ky{M:List bF}{l:List dw}:∀{ps:List (ByteArray×Bool)} {aO:List cQ},ie M l ps aO→ps.length=aO.length
 | [],[],_=>rfl
 | _::ps,.mx _::aO,h=>by simp[ky h.2]
 | _::ps,.ex _::aO,h=>by simp[ky h.2]
 | [],_::_,h=>h.elim
 | _::_,[],h=>h.elim
theorem jR{M:List bF}{l:List dw}:∀{ps:List (ByteArray×Bool)} {aO:List cQ},ie M l ps aO→∀{k:Nat} {q:ByteArray×Bool} {a:cQ},ps[k]?=some q→aO[k]?=some a→
  (∃r,a=.mx r∧q.2=true∧oC M l r)∨(∃e,a=.ex e∧q.2=false∧fx l e)
 | [],[],_,k,q,a,h,_=>by simp at h
 | p::ps,.mx r::aO,h,0,q,a,ac,J=>by
  simp at ac J;subst ac J
  exact .inl ⟨r,rfl,h.1.1,h.1.2⟩
 | p::ps,.ex e::aO,h,0,q,a,ac,J=>by
  simp at ac J;subst ac J
  exact .inr ⟨e,rfl,h.1.1,h.1.2⟩
 | p::ps,.mx r::aO,h,k+1,q,a,ac,J=>jR h.2 (by simpa using ac) (by simpa using J)
 | p::ps,.ex e::aO,h,k+1,q,a,ac,J=>jR h.2 (by simpa using ac) (by simpa using J)
 | [],_::_,h,_,_,_,_,_=>h.elim
 | _::_,[],h,_,_,_,_,_=>h.elim
theorem gQ(l:List dw)(aO:List cQ)(a:cQ):bA l (aO++[a])=bA l aO++bA l [a]∧b5 l (aO++[a])=b5 l aO++b5 l [a]:=by
 induction aO with
 | nil=>exact⟨rfl,rfl⟩
 | cons x aO aa=>cases x<;>simp[bA,b5,aa.1,aa.2]
structure v9(w:World)(g:Nat)(F:List aG):Prop where
 lt:g<w.heap.size
 ex:∃A n c,n≤1000000∧w.cell? ⟨g,2,none⟩=some (.slice A n c)∧Sl w (au w) A n (F.map c7)
theorem v9.on{w ab:World}{g:Nat}{F:List aG}(h:v9 w g F)(O:Ext w ab):v9 ab g F:=by
 exact zU
theorem iy{w:World}:(c7 f).rep w P cs↔∃A n c B m k,cs=[.string f.name,.slice A n c,.slice B m k]∧n≤c∧m≤k∧Sl w P A n (f.params.map cW)∧Sl w P B m (cL f.body):=by
 unfold c7;rw[bw,ca];constructor
 ·rintro⟨y,rfl,h⟩;obtain⟨A,n,c,b2,rfl,hc,hs,h⟩:=aJ.1 h;obtain⟨B,m,k,bu,rfl,ap,O,h⟩:=aJ.1 h;rw[aM] at h;subst h;exact⟨A,n,c,B,m,k,rfl,hc,ap,hs,O⟩
 ·rintro⟨A,n,c,B,m,k,rfl,hc,ap,hs,O⟩;exact⟨_,rfl,aJ.2 ⟨A,n,c,_,rfl,hc,hs,aJ.2 ⟨B,m,k,[],rfl,ap,O,aM.2 rfl⟩⟩⟩
theorem jV(f:aG):(c7 f).sz=3:=rfl
theorem lV(q:ByteArray×Bool):(cW q).sz=2:=rfl
theorem jA{w:World}{q:ByteArray×Bool}:(cW q).rep w P cs↔cs=[.string q.1,.bool q.2]:=by
 unfold cW;rw[bw,ca];constructor
 ·rintro⟨y,rfl,h⟩;obtain⟨bu,rfl,J⟩:=eE.1 h;rw[aM] at J;subst J;rfl
 ·rintro rfl;exact⟨_,rfl,eE.2 ⟨_,rfl,aM.2 rfl⟩⟩
theorem zZ:b0 prog 58 57 (.agg #[.bool false,.int .i64 0,.slice none 0 0]) 3 40:=b0.mk' Tryz.underlying58 (by kernel_rfl) rfl ad
abbrev cO(op t:Int)(g:Bool)(IA:GR)(i ic:Nat)(bj:GR)(k lc:Nat):Array Value:=
 #[.int .i64 op,.int .i64 t,.bool g,.int .i64 0,.int .i64 0,.string ⟨#[]⟩,.slice none 0 0,.bool false,.int .i64 0,.slice none 0 0,.slice IA i ic,.slice bj k lc]
theorem q0{w:World}{r:d2}(h:(fQ (.mx r)).rep w P cs):∃s A n c A2 c2,cs=[.bool true,.string s,.slice A n c,.int .i64 0,.int .i64 0,.string ⟨#[]⟩,.slice A2 0 c2]∧(jB r).rep w P [.string s,.slice A n c]:=by
 exact Df
namespace yq
theorem sB{p:Prop}(h:p:=by
 obtain⟨A,n,c,aR,rfl,_,_,bv⟩:=aJ.1 hx;rw[aM] at bv;subst bv;rw[D.bH] at a3;obtain⟨A2,c9,c2,rfl,_,_⟩:=aV.1 a3;exact⟨_,_,_,_,_,_,_,_,_,rfl,a3⟩
 ):p:=h
end yq
open yq in
theorem qZ{w:World}{e:VE}(h:(fQ (.ex e)).rep w P cs):∃bH cm rc op n s A m c,cs=[.bool false,.string ⟨#[]⟩,.slice bH cm rc,.int .i64 op,.int .i64 n,.string s,.slice A m c]∧(a4 e).rep w P [.int .i64 op,.int .i64 n,.string s,.slice A m c]:=by
 exact sA
theorem oE{w:World}{l:List D}(h:D.aL w P l cs):D.aL w P (iO::l) (.int .i64 0::.int .i64 0::.string ⟨#[]⟩::.slice none 0 0::cs):=
 dJ.2 ⟨[.int .i64 0,.int .i64 0,.string ⟨#[]⟩,.slice none 0 0],cs,rfl,eA.2 ⟨none,0,rfl⟩,h⟩
theorem mC{w:World}{l:List D}(h:D.aL w P l cs):D.aL w P (cV jf::l) (.bool false::.int .i64 0::.slice none 0 0::cs):=
 dJ.2 ⟨[.bool false,.int .i64 0,.slice none 0 0],cs,rfl,dY.2 ⟨none,0,0,rfl,Gb _,Sl.bu _⟩,h⟩
theorem g0{w:World}{op t:Int}{g:Bool}{is:List VE}{ps:List bK}{IA:GR}{i ic:Nat}{bj:GR}{k lc:Nat}(ac:Sl w P IA i (is.map a4))(J:Sl w P bj k (ps.map cV))(c1:i≤ic)(c2:k≤lc):
  (dK ⟨op,t,g,none,jf,is,ps⟩).rep w P (cO op t g IA i ic bj k lc).toList:=by
 unfold dK;rw[bw];exact a9.2 ⟨_,rfl,a9.2 ⟨_,rfl,eE.2 ⟨_,rfl,oE (mC (aJ.2 ⟨IA,i,ic,_,rfl,c1,ac,aJ.2 ⟨bj,k,lc,[],rfl,c2,J,aM.2 rfl⟩⟩))⟩⟩⟩
theorem sJ:b0 prog 64 60 (.agg (cO 0 0 false none 0 0 none 0 0)) 12 168:=b0.mk' Tryz.underlying64 (by kernel_rfl) rfl ad
structure cu(w:World)(g B:Nat)(M:List bF)(F:List aG)(l:List dw)(bj:GR)(ln lc:Nat)(n:Int)(st:Nat)(code:List aC)(sites:List Int)(aV:GR)(bX:Nat)(bI:GR)(bq:Nat):Prop where
 blk:∃GA gn gc MA mn mc FA fn fc,ag w g 187 #[.slice GA gn gc,.slice MA mn mc,.slice FA fn fc,.slice bj ln lc,.int .i64 n,.int .i64 st,.int .i64 0,.int .i64 0,.slice aV code.length bX,.slice bI sites.length bq]∧mn≤1000000∧fn≤1000000∧
  Sl w (off (Ms g (.slice aV code.length bX) (.slice bI sites.length bq)) w) MA mn (M.map d4)∧Sl w (off (Ms g (.slice aV code.length bX) (.slice bI sites.length bq)) w) FA fn (F.map c7)
 base:g<B∧B≤w.heap.size
 names:ln≤1000000∧Sl w (off (Ms g (.slice aV code.length bX) (.slice bI sites.length bq)) w) bj ln (l.map bN)
 rows:jO B 60 12 3 1 w aV code.length bX (code.map dK) bI sites.length bq (sites.map D.i)
section
variable {w ab aH aQ bJ cy X:World} {g B:Nat} {M:List bF} {F:List aG} {l:List dw} {bj:GR} {ln lc:Nat} {n:Int} {st:Nat} {code:List aC} {sites:List Int} {aV:GR} {bX:Nat} {bI:GR} {bq:Nat}
theorem cu.lt(h:cu w g B M F l bj ln lc n st code sites aV bX bI bq):g<w.heap.size:=by
 obtain⟨GA,gn,gc,MA,mn,mc,FA,fn,fc,aT,_⟩:=h.blk;exact aT.lt
theorem cu.L(h:cu w g B M F l bj ln lc n st code sites aV bX bI bq):qO w g l:=by
 obtain⟨GA,gn,gc,MA,mn,mc,FA,fn,fc,aT,_⟩:=h.blk;exact⟨aT.lt,bj,ln,lc,h.names.1,aT.cell 3,h.names.2.mono fun b O=>O.1⟩
theorem cu.M_(h:cu w g B M F l bj ln lc n st code sites aV bX bI bq):u3 w g M:=by
 obtain⟨GA,gn,gc,MA,mn,mc,FA,fn,fc,aT,ac,J,aS,bo⟩:=h.blk;exact⟨aT.lt,MA,mn,mc,ac,aT.cell 1,aS.mono fun b O=>O.1⟩
theorem cu.F_(h:cu w g B M F l bj ln lc n st code sites aV bX bI bq):v9 w g F:=by
 obtain⟨GA,gn,gc,MA,mn,mc,FA,fn,fc,aT,ac,J,aS,bo⟩:=h.blk;exact⟨aT.lt,FA,fn,fc,J,aT.cell 2,bo.mono fun b O=>O.1⟩
theorem cu.al(h:cu w g B M F l bj ln lc n st code sites aV bX bI bq)(he:Ext w ab):cu ab g B M F l bj ln lc n st code sites aV bX bI bq:=by
 obtain⟨GA,gn,gc,MA,mn,mc,FA,fn,fc,aT,ac,J,aS,bo⟩:=h.blk;exact⟨⟨GA,gn,gc,MA,mn,mc,FA,fn,fc,aT.al he,ac,J,aS.ch (Mv.gP he),bo.ch (Mv.gP he)⟩,⟨h.base.1,Gu h.base.2 he.size⟩,⟨h.names.1,h.names.2.ch (Mv.gP he)⟩,h.rows.al he⟩
abbrev FW(B g:Nat)(cv sv:Value)(w:World):Nat→Prop:=fun b=>B≤b∧off (Ms g cv sv) w b
theorem cu.added(h:cu w g B M F l bj ln lc n st code sites aV bX bI bq){x:aC}{s:Int}{Y aS:GR}{an be:Nat}(e1:Ext w aH)
  (ac:Gr (fun b=>B≤b∧(Value.slice bI sites.length bq).ownBlock≠some b) B 60 12 aQ Y (code.length+1) an (code.map dK++[dK x])) (aF:Fr (fun b=>(Value.slice aV code.length bX).ownBlock=some b) aH aQ) (dS:c4 aH aV code.length bX Y (code.length+1) an)
  (e2:Ext aQ bJ) (J:Gr (fun b=>B≤b∧(Value.slice Y (code.length+1) an).ownBlock≠some b) B 3 1 cy aS (sites.length+1) be (sites.map D.i++[D.i s])) (eL:Fr (fun b=>(Value.slice bI sites.length bq).ownBlock=some b) bJ cy) (di:c4 bJ bI sites.length bq aS (sites.length+1) be)
  (ah:(cy.setCell ⟨g,8,none⟩ (.slice Y (code.length+1) an)).setCell ⟨g,9,none⟩ (.slice aS (sites.length+1) be)=X) :
  cu X g B M F l bj ln lc n st (code++[x]) (sites++[s]) Y an aS be∧Mv g (.slice aV code.length bX) (.slice bI sites.length bq) w (.slice Y (code.length+1) an) (.slice aS (sites.length+1) be) X:=by
 have ao:=h.lt;have bV:Fr (fun b=>b=g) cy X:=ah▸((Fr.refl (fun b=>b=g) cy).setCell (.inl rfl) _).setCell (.inl rfl) _;have s1:=e1.size;have s2:=aF.size;have aW:=e2.size;have a5:Mv g (.slice aV code.length bX) (.slice bI sites.length bq) w (.slice Y (code.length+1) an) (.slice aS (sites.length+1) be) X:=by
  refine⟨Fr.trans (Fr.mono e1 fun _ h=>h.elim) (Fr.trans (aF.mono fun b O=>.inr (.inl O)) (Fr.trans (Fr.mono e2 fun _ h=>h.elim) (Fr.trans (eL.mono fun b O=>.inr (.inr O)) (bV.mono fun b O=>.inl O)))),fun b O hm=>?_⟩;rcases hm with hm|hm|hm
  ·exact .inl hm
  ·rcases dS b hm with ac|ac
   ·exact .inr (.inl ac)
   ·omega
  ·rcases di b hm with ac|ac
   ·exact .inr (.inr ac)
   ·omega
 refine⟨?_,a5⟩;obtain⟨GA,gn,gc,MA,mn,mc,FA,fn,fc,aT,cm,bZ,cz,cj⟩:=h.blk;have a:∀b,(Value.slice aV code.length bX).ownBlock=some b→g<b:=fun b O=>Gc h.base.1 (h.rows.one.lt O).1;have v:∀b,(Value.slice bI sites.length bq).ownBlock=some b→g<b:=fun b O=>Gc h.base.1 (h.rows.two.lt O).1;have b1:ag cy g _ _:=(((aT.al e1).on aF fun O=>by have:=a _ O;omega).al e2).on eL fun O=>by have:=v _ O;omega
 have eN:jO B 60 12 3 1 bJ Y (code.length+1) an (code.map dK++[dK x]) bI sites.length bq (sites.map D.i):=((h.rows.al e1).grow ac aF dS).al e2;have m:=(eN.swap.grow J eL di).swap;refine⟨⟨GA,gn,gc,MA,mn,mc,FA,fn,fc,?_,cm,bZ,?_,?_⟩,⟨h.base.1,Gu h.base.2 a5.fr.size⟩,⟨h.names.1,?_⟩,?_⟩
 ·rw[←ah,Gd,Gd];exact(b1.aH 8 _).aH 9 _
 ·rw[Gd,Gd];exact cz.ch a5
 ·rw[Gd,Gd];exact cj.ch a5
 ·rw[Gd,Gd];exact h.names.2.ch a5
 ·rw[Gi,Gi,Gd,Gd];exact m.cZ bV fun b O _=>by have:=h.base.1;omega
end
def DO(w:World)(g B:Nat)(M:List bF)(F:List aG)(l:List dw)(bj:GR)(ln lc:Nat)(n:Int)(st:Nat)(code:List aC)(sites:List Int)(aV:GR)(bX:Nat)(bI:GR)(bq:Nat)(x:aC)(s:Int)(e:Ending)(ab:World):Prop:=
 e=.returned (.int .i64 code.length)∧∃Y an aS be,cu ab g B M F l bj ln lc n st (code++[x]) (sites++[s]) Y an aS be∧Mv g (.slice aV code.length bX) (.slice bI sites.length bq) w (.slice Y (code.length+1) an) (.slice aS (sites.length+1) be) ab
theorem fu{w:World}{g B:Nat}{M:List bF}{F:List aG}{l:List dw}{bj:GR}{ln lc:Nat}{n:Int}{st:Nat}{code:List aC}{sites:List Int}{aV:GR}{bX:Nat}{bI:GR}{bq:Nat}(h:cu w g B M F l bj ln lc n st code sites aV bX bI bq)
  (x:aC) (s:Int) {op t:Int} {gl:Bool} {eo en:Int} {es:ByteArray} {EA:GR} {em ec:Nat} {eN:Bool} {pi:Int} {PA:GR} {pm pc:Nat} {IA:GR} {i ic:Nat} {KA:GR} {k kc:Nat}
  (hx:(dK x).rep w (FW B g (.slice aV code.length bX) (.slice bI sites.length bq) w) [.int .i64 op,.int .i64 t,.bool gl,.int .i64 eo,.int .i64 en,.string es,.slice EA em ec,.bool eN,.int .i64 pi,.slice PA pm pc,.slice IA i ic,.slice KA k kc])
  (ac:code.length≤100000) (J:sites.length≤100000) :
  Calls prog 107 #[.pointer (some ⟨g,0,none⟩),.agg #[.int .i64 op,.int .i64 t,.bool gl,.int .i64 eo,.int .i64 en,.string es,.slice EA em ec,.bool eN,.int .i64 pi,.slice PA pm pc,.slice IA i ic,.slice KA k kc],.int .i64 s] w
   (DO w g B M F l bj ln lc n st code sites aV bX bI bq x s):=by
 have H:=ae h;have aU:=ae hx;obtain⟨GA,gn,gc,MA,mn,mc,FA,fn,fc,aT,_⟩:=h.blk;have a4:=ae aT;clear h hx aT;go_enter func107,ntmps107;go_upto_region 1 with(fail);generalize bg:World.alloc _ _=W;have av:Ext w W:=bg▸GN.alloc _;have aq:ag W w.heap.size 60 #[.int .i64 op,.int .i64 t,.bool gl,.int .i64 eo,.int .i64 en,.string es,.slice EA em ec,.bool eN,.int .i64 pi,.slice PA pm pc,.slice IA i ic,.slice KA k kc]:=bg▸GO;clear bg;have bh:=ae av;have dR:=ae aq;obtain⟨a0,al,af⟩:=aq.two;obtain⟨a7,am,aE⟩:=(a4.al av).two;have dV:=a4.lt;have b9:=av.size;have dP:=H.base.1;have z:=H.base.2;clear av aq;have bW:¬(Value.slice aV code.length bX).ownBlock=some g:=fun O=>by have:=(H.rows.one.lt O).1;omega
 have m:¬(Value.slice aV code.length bX).ownBlock=some w.heap.size:=fun O=>by have:=(H.rows.one.lt O).2;omega
 have aM:∀b,(Value.slice aV code.length bX).ownBlock=some b→b<W.heap.size:=fun b O=>by have:=(H.rows.one.lt O).2;omega
 have ck:∀b,(Value.slice bI sites.length bq).ownBlock=some b→b<W.heap.size:=fun b O=>by have:=(H.rows.two.lt O).2;omega
 have G:(dK x).rep W (j2 (fun b=>B≤b∧(Value.slice bI sites.length bq).ownBlock≠some b) W (.slice aV code.length bX)) _:=
  D.aP (fun b O=>⟨⟨O.1,fun hc=>O.2.2 (.inr (.inr hc))⟩,Gc O.2.1 b9,fun hc=>O.2.2 (.inr (.inl hc))⟩) _ _ (D.bg (fun b O=>bh.block b O.2.1 fun h=>h) _ _ aU.o)
 have o:=H.rows.al bh.o;have j:=ae G;have aP:=ae o;clear G o;refine o2 (fun b=>(Value.slice aV code.length bX).ownBlock=some b) [15,18,21] (.free 0 (.free 1 (.free 2 (.free 3 (.free 4 (.held 5 (.held 6 (.free 9 (.free 10 (.free 11 (.held 12 (.free 13 (.pick [7,14] (fun i=>bif i == 7 then .pick [8,14] (fun i=>bif i == 8 then .pick [14] (fun _=>.pick [15] (fun _=>.free 16 (.free 17 (.pick [18] (fun _=>.free 19 (.free 20 (.pick [21] (fun _=>.stop)))))))) else .pick [8] (fun _=>.pick [15] (fun _=>.free 16 (.free 17 (.pick [18] (fun _=>.free 19 (.free 20 (.pick [21] (fun _=>.stop))))))))) else .pick [7] (fun _=>.pick [8] (fun _=>.pick [15] (fun _=>.free 16 (.free 17 (.pick [18] (fun _=>.free 19 (.free 20 (.pick [21] (fun _=>.stop))))))))))))))))))))))) ?_
 iterate 5 refine tf ?_
 iterate 2 refine mE ?_
 iterate 3 refine tf ?_
 refine mE ?_;refine tf ?_;refine f5 (P:=?dn) (ops:=?dS) (Q:=?co) (R:=?fg) (tails:=?dc) (rest:=.pick [15] (fun _=>.free 16 (.free 17 (.pick [18] (fun _=>.free 19 (.free 20 (.pick [21] (fun _=>.stop)))))))) (aa:=?dt)
  (C:=fun(_:Nat) a9 A2 c2 V=>True∧∃aH aQ,Ext W aH∧Gr (fun b=>B≤b∧(Value.slice bI sites.length bq).ownBlock≠some b) B 60 12 aQ A2 (code.length+1) c2 (code.map dK++[dK x])∧Fr (fun b=>(Value.slice aV code.length bX).ownBlock=some b) aH aQ∧c4 aH aV code.length bX A2 (code.length+1) c2∧Ext aQ V∧ag V a9 3 #[.int .i64 s]) (fun key=>?cg) ?c5
 case cg=>
  refine aR ?_ ?_
  ·
   refine ja ?_;generalize hV:World.drew (World.alloc _ _)=c3;have e1:Ext W c3:=hV▸(GN.alloc _).drew;have cd:ag c3 W.heap.size 60 #[.int .i64 op,.int .i64 t,.bool gl,.int .i64 eo,.int .i64 en,.string es,.slice EA em ec,.bool eN,.int .i64 pi,.slice PA pm pc,.slice IA i ic,.slice KA k kc]:=hV▸GO;clear hV;refine aR ?_ ?_
   ·
    refine az rfl (fun K hK=>?_) rfl;rw[if_pos (by rfl)];refine d8 sJ (.tmp 12) (.tmp 14) (by rfl) (aP.al e1).one cd (s3 j.o e1) (by rfl) (by rfl) (by rfl) ad ad (aB e1.size) ?_;intro Y an aQ b4 aF dS c1;refine hK _ _ (aF) ?_;clear hK K
    try simp only[PU]
    refine ak ?_;refine dU ?_;have F:True∧∃aH f,Ext W aH∧Gr (fun b=>B≤b∧(Value.slice bI sites.length bq).ownBlock≠some b) B 60 12 f Y (code.length+1) an (code.map dK++[dK x])∧Fr (fun b=>(Value.slice aV code.length bX).ownBlock=some b) aH f∧c4 aH aV code.length bX Y (code.length+1) an∧Ext f (aQ.alloc (.cells #[.int .i64 s] 3))∧ag (aQ.alloc (.cells #[.int .i64 s] 3)) (aQ.heap.size) 3 #[.int .i64 s]:=
     ⟨trivial,c3,aQ,e1,b4,aF,dS,GN.alloc _,GO⟩
    clear b4 dS;revert F;generalize aQ.heap.size=a9;generalize W.heap.size=cb;intro F;exact key cb a9 Y an _ F
   ·
    refine dU ?_;generalize hV:World.alloc _ _=y;have r:ag y c3.heap.size 3 #[.int .i64 s]:=hV▸GO;have aX:=by have:=cd.alloc (.cells #[.int .i64 s] 3);rw[hV] at this;exact this
    have e2:Ext W y:=hV▸e1.alloc _;clear hV cd;refine ak ?_;refine az rfl (fun K hK=>?_) rfl;rw[if_pos (by rfl)];refine d8 sJ (.tmp 12) (.tmp 14) (by rfl) (aP.al e2).one aX (s3 j.o e2) (by rfl) (by rfl) (by rfl) ad ad (aB e2.size) ?_;intro Y an aQ b4 aF dS c1;refine hK _ _ (aF) ?_;clear hK K
    try simp only[PU]
    have a2:¬(Value.slice aV code.length bX).ownBlock=some c3.heap.size:=fun O=>by have:=aM _ O;have:=e1.size;omega
    have F:True∧∃aH f,Ext W aH∧Gr (fun b=>B≤b∧(Value.slice bI sites.length bq).ownBlock≠some b) B 60 12 f Y (code.length+1) an (code.map dK++[dK x])∧Fr (fun b=>(Value.slice aV code.length bX).ownBlock=some b) aH f∧c4 aH aV code.length bX Y (code.length+1) an∧Ext f aQ∧ag aQ (c3.heap.size) 3 #[.int .i64 s]:=
     ⟨trivial,y,aQ,e2,b4,aF,dS,GN,r.on aF a2⟩
    clear b4 dS;revert F;generalize c3.heap.size=a9;generalize W.heap.size=cb;intro F;exact key cb a9 Y an _ F
  ·
   refine ja ?_;generalize hV:World.drew (World.alloc _ _)=c3;have r:ag c3 W.heap.size 3 #[.int .i64 s]:=hV▸GO;have e1:Ext W c3:=hV▸(GN.alloc _).drew;clear hV;refine ak ?_;refine dU ?_;generalize hV:World.alloc _ _=y;have e2:Ext W y:=hV▸e1.alloc _;have cd:ag y c3.heap.size 60 #[.int .i64 op,.int .i64 t,.bool gl,.int .i64 eo,.int .i64 en,.string es,.slice EA em ec,.bool eN,.int .i64 pi,.slice PA pm pc,.slice IA i ic,.slice KA k kc]:=hV▸GO;have bd:ag y W.heap.size 3 #[.int .i64 s]:=hV▸r.alloc _;clear hV;refine ak ?_;refine az rfl (fun K hK=>?_) rfl;rw[if_pos (by rfl)];refine d8 sJ (.tmp 12) (.tmp 14) (by rfl) (aP.al e2).one cd (s3 j.o e2) (by rfl) (by rfl) (by rfl) ad ad (aB e2.size) ?_;intro Y an aQ b4 aF dS c1;refine hK _ _ (aF) ?_;clear hK K
   try simp only[PU]
   have a2:¬(Value.slice aV code.length bX).ownBlock=some W.heap.size:=fun O=>by have:=aM _ O;omega
   have F:True∧∃aH f,Ext W aH∧Gr (fun b=>B≤b∧(Value.slice bI sites.length bq).ownBlock≠some b) B 60 12 f Y (code.length+1) an (code.map dK++[dK x])∧Fr (fun b=>(Value.slice aV code.length bX).ownBlock=some b) aH f∧c4 aH aV code.length bX Y (code.length+1) an∧Ext f aQ∧ag aQ (W.heap.size) 3 #[.int .i64 s]:=
    ⟨trivial,y,aQ,e2,b4,aF,dS,GN,bd.on aF a2⟩
   clear b4 dS;revert F;generalize W.heap.size=a9;generalize c3.heap.size=cb;intro F;exact key cb a9 Y an _ F
 case c5=>
  rintro cb a9 Y an V ⟨I,aH,aQ,e1,b4,aF,dS,e2,r⟩;have s1:=e1.size;have s2:=aF.size;have aW:=e2.size;have bR:jO B 60 12 3 1 V Y (code.length+1) an (code.map dK++[dK x]) bI sites.length bq (sites.map D.i):=((aP.al e1).grow b4 aF dS).al e2;have bP:ag V g _ _:=(((a4.al bh.o).al e1).on aF bW).al e2;have v:¬(Value.slice bI sites.length bq).ownBlock=some g:=fun O=>by have:=(H.rows.two.lt O).1;omega
  clear a0 al af a7 am aE;refine ak ?_;refine aY rfl (fun K hK=>?_) rfl;rw[if_pos (by rfl)];refine d8 dj (.tmp 19) (.tmp 21) (by rfl) bR.two r (show (D.i s).rep V _ _ from by simp only[D.rep]) (by rfl) (by rfl) (by rfl) ad ad ad ?_;intro aS be cy g2 eL di c2;have bB:=aK g2 eL di;have b1:=bP.on eL v;have u:=cA e1 b4 aF dS e2;clear g2 eL di bP r e1 b4 aF dS e2 bR;obtain⟨a7,am,aE⟩:=b1.two;refine hK _ _ ?_;clear hK K
  try simp only[PU]
  iterate 2 refine tf ?_
  refine ak ?_;refine aY rfl (fun K hK=>?_) rfl;go_simp;refine hK _ _ ?_;clear hK K
  try simp only[PU]
  iterate 2 refine tf ?_
  refine ak ?_;refine aY rfl (fun K hK=>?_) rfl;go_simp;refine hK _ _ ?_;clear hK K
  try simp only[PU]
  refine bU ?_;generalize ah:World.setCell _ _ _=X;obtain⟨e1,b4,aF,dS,e2⟩:=u.o;obtain⟨hS,a5⟩:=cu.added H.o (bh.trans e1) b4 aF dS e2 bB.1 bB.2.1 bB.2.2 ah;have a8:=ai hS a5;obtain⟨bc,bE,aN,cO,ea,cS,cj,dE,b6,bz,_⟩:=hS.blk;clear ah a7 am aE b1 hS a5 e1 b4 aF dS e2;obtain⟨a7,am,aE⟩:=bz.two;go_wp2;go_ret;refine⟨ret_int ?_,Y,an,aS,be,?_⟩
  ·simp
  ·exact a8.o
end Go.Proofs.YtjhgbdckgkppnaaGreat
