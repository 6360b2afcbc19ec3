/- Part 25 of the proof. No condition of its own. -/
import Derived.Test.YtnigabjngpnbiabGreatF12
import Derived.Test.YtnigabjngpnbiabGreatF19
namespace Go.Proofs.YtnigabjngpnbiabGreat
open Go.RowKit Go.Proofs.Tryz
set_option maxRecDepth 1000000
set_option maxHeartbeats 25600000
set_option linter.unusedVariables false
variable{G:Env}{e o:Int}{r:Int×Int}{T V:NI}{l:List aB}{X:List bM}{L d g j k n:Nat}{M:Nat->Prop}{A:NH}{ab w:World}{f:aI}{p:bN}
theorem gy.fr{s:Nat}(h:gy s w ab):Fr (λb=>b=s) w ab:=⟨h.os,h.tape,h.output,h.size,h.block⟩
theorem eg{X V:World}{t:TypeId}{cs:Array Value}(vs:List Value)(hs:cs.size=vs.length)(aT:an V g t cs)(aF:Fr M w V)(aR:w.heap.size<=g)(hX:sj g V 0 vs=X):
  an X g t vs.toArray/\Fr M w X/\Fr (λb=>b=g) V X:=by
 subst hX;have J:=jT (g:=g) vs 0 V;refine⟨?_,aF.eW (J.below aF.size λk aj h=>ad),J⟩;have ac:=lz vs 0 V cs aT;have az:jv cs 0 vs=vs.toArray:=by
  apply Array.toList_inj.1
  rw[mH vs 0 cs ad];simp;omega
 rwa [az] at ac
theorem cu.cZ{s:Nat}{c:Nat}{l:List Int}(h:cu w s A n c l)(O:Fr M w ab)(hM:∀b,b<=s->¬M b):cu ab s A n c l:=
 h.J2 (g:=s+1) (O.below h.lt λk aj=>hM k ad) ad
theorem Sl.E7{aO aW:World}{l:List D}(h:Sl aO (fresh w aO) A n l)(O:Fr M aO aW)(hM:∀b,M b->b<w.heap.size):Sl aW (fresh w aW) A n l:=
 (h.ak λb b2=>O.block b b2.2 λhm=>by have:=hM b hm;have:=b2.1;omega).mono λb b2=>⟨b2.1,M0 b2.2 O.size⟩
theorem Sl.nY{P:Nat->Prop}{t:TypeId}{l:List D}{cs:List Value}(aT:an w g t cs.toArray)(ba:D.aQ w P l cs)(bh:P g)(hl:l.length=n):Sl w P (some ⟨g,0,none⟩) n l:=
 ⟨hl,λ_=>⟨g,0,cs,rfl,bh,ba,λj u bi=>by rw[Nm,aT.cell];simpa using bi⟩⟩
def uy(w:World)(s:Nat)(A:NH)(n c:Nat)(l:List Int)(V:NI)(d:Nat)(e:Ending)(ab:World):Prop:=
 ∃(x:VE) (cW:NH) (bh cY:Nat),e=.returned (.agg #[.int .i64 x.a5,.int .i64 x.numOf,.string x.bw,.slice cW bh cY])/\x.src V d/\bh<=cY/\Sl ab (fresh w ab) cW bh (x.args.map bo)/\cu ab s A n c l/\Fr (λb=>b=s) w ab
def nE(w:World)(s:Nat)(V:NI)(R:NH)(aU:Nat):Prop:=Sl w (off (λb=>b=s) w) R aU (V.map .s)
theorem nE.on{s:Nat}{R:NH}{aU:Nat}(h:nE w s V R aU)(O:Fr (λb=>b=s) w ab):nE ab s V R aU:=Sl.cD h O
theorem vT(w:World)(s:Nat)(A:NH)(n c:Nat)(l:List Int)(V:NI)(R:NH)(aU aq:Nat)(d:Nat)(hd:d<=5)(bH:aU<=1000)(h:cu w s A n c l)(hN:nE w s V R aU)
  (u:d≠0->∀aW:World,cu aW s A n c l->nE aW s V R aU->Calls prog 128 #[.pointer (some ⟨s,0,none⟩),.slice R aU aq,.int .i64 ((d:Int) - 1)] aW (uy aW s A n c l V (d - 1))) :
  Calls prog 128 #[.pointer (some ⟨s,0,none⟩),.slice R aU aq,d] w (uy w s A n c l V d):=by
 have cC:=ae u;have bS:=h.lt;have ab:=ah h hN;clear u h hN;go_enter func128,ntmps128;go_wp2_with(fail);generalize be:World.alloc _ _=W;have aF:=aX be;have aT:an W w 37 #[(0:Int),(0:Int),NF,()]:=be▸an.gF _ _ _ rfl;have az:Fr (λb=>b=s) w W:=aF.mono λ_ h=>h.elim;have al:=cQ (ab.1.cZ aF λ_ _ h=>h) (ab.2.on az) az aT bS;clear be aF aT az ab;refine(aZ _ s A n c l 10 al.1 ad ad).mono ?_;rintro e aO ⟨cw,rfl,a7,b2,h,he⟩;have H1:=ah h he.fr;have r:=ah a7 b2;clear h he;have U:w<W.heap.size:=al.2.2.2.1.lt;have cn:W<=aO.heap.size:=H1.2.size;by_cases f:((d:Int) == 0)=true\/((d:Int) == 0)=false/\decide (cw<2)=true
 .clear cC r a7 b2;rcases f with cj|⟨cj,dx⟩
  all_goals
   by_cases bf:0<aU
   .have aN:decide ((0:Int)<(aU:Int))=true:=by simp;omega
    go_wp2_with(fail);refine(aZ _ s A n c l 2 H1.1 ad ad).mono ?_;rintro e aW ⟨bR,rfl,i,bn,h,he⟩;have b1:=ah h (H1.2.trans he.fr);clear h he;by_cases cK:bR=1
    .have cB:(bR == 1)=true:=by simpa using cK
     clear cK i bn;go_wp2_with(fail);refine(aZ _ s A n c l aU b1.1 ad ad).mono ?_;rintro e b6 ⟨cS,rfl,N,cd,h,he⟩;have bN:=ah h (b1.2.trans he.fr);clear h he;obtain⟨j,rfl⟩:=M6 N;obtain⟨b,o,nm,cs,rfl,O,hm,ba,hl,hc⟩:=Sl.g1 (enc:=D.s) (z:=1) (al.2.1.on bN.2) (λ_=>rfl) (k:=j) ad;have I:cs=[.string nm]:=by simpa only[D.rep] using ba
     subst I;have c0:=hc 0 _ rfl;simp only[Nat.mul_one,Nd] at c0;have b4:=al.2.2.2.1.on bN.2 (λh=>by have:=al.2.2.2.2;omega);have aE:=ae b4;obtain⟨e0,a6,ag⟩:=b4.two;have Q:=ae (M4 hm);clear ba hl hc hm b4;go_wp2_with(fail);generalize co:World.setCell _ _ _=Y;obtain⟨bM,bA,bz⟩:=eg (M:=λb=>b=s) [(2:Int),(0:Int),nm,()] (by rfl) aE.o (al.2.2.1.trans bN.2) (MU _) co;obtain⟨bq,a1,a5⟩:=bM.two;refine NB (v:=.agg #[(2:Int),(0:Int),nm,()]) (by simp[results,Tryz.results128,go_sem,bq]) rfl ?_;exact⟨.gU nm,none,0,0,rfl,(by cases d<;>exact Q.o),MU _,Sl.bY _,bN.1.cZ bz (λb O h=>by have:=al.2.2.2.2;omega),bA⟩
    .have cB:(bR == 1)=false:=by simpa using cK
     clear cK i bn;go_wp2_with(fail);refine(qP _ s A n c l b1.1).mono ?_;rintro e b6 ⟨cS,rfl,N,cd,h,he⟩;have bN:=ah h (b1.2.trans he.fr);exact H5
   .obtain rfl:aU=0:=ad;go_wp2_with(fail);refine(qP _ s A n c l H1.1).mono ?_;rintro e b6 ⟨cS,rfl,N,cd,h,he⟩;have bN:=ah h (H1.2.trans he.fr);exact H5
 have ap:d≠0:=λh=>f (.inl (by simp[h]));have cj:((d:Int) == 0)=false:=by simp;omega
 have dx:decide (cw<2)=false:=by
  have:¬(decide (cw<2)=true):=λh=>f (.inr ⟨cj,h⟩);simpa using this
 have G:wrap64 ((d:Int) - 1)=(d:Int) - 1:=IntWalk.wrap64_in _ ad;have dS:=ae ap;have t:=ah U cn;clear f ap;by_cases bj:cw<4
 .obtain aS|aS:cw=2\/cw=3:=by simp at dx;omega
  all_goals
   subst aS;clear bj a7 b2 r dx cn U;go_wp2_with(fail);refine(cC.o dS.o _ H1.1 (al.2.1.on H1.2)).mono ?_;rintro e aW ⟨x,cW,bh,cY,rfl,hx,aM,cm,h,he⟩;have b1:=ah h (H1.2.trans he);have aP:=br hx aM cm he;have b4:=al.2.2.2.1.on b1.2 (λh=>by have:=al.2.2.2.2;omega);have aE:=ae b4;obtain⟨e0,a6,ag⟩:=b4.two;clear h he hx aM cm b4;go_wp2_with(fail);generalize co:World.setCell _ _ _=Y;have c9:Y=aW.heap.size:=by rw[<-co];simp
   obtain⟨bM,bA,bz⟩:=eg (M:=λb=>b=s) [.int .i64 _,(0:Int),NF,.slice (some ⟨aW,0,none⟩) 1 1] (by rfl) aE.o (al.2.2.1.trans b1.2) (MU _) co;generalize cA:World.alloc _ _=Z;have bm:=bM.alloc (.cells #[.int .i64 x.a5,.int .i64 x.numOf,.string x.bw,.slice cW bh cY] 37);rw[cA] at bm;have g:an Z aW 37 #[.int .i64 x.a5,.int .i64 x.numOf,.string x.bw,.slice cW bh cY]:=cA▸an.gF _ _ _ c9.symm;have bd:Fr (λb=>b=s) w Z:=cA▸bA.alloc _;have a4:Fr (λb=>b=w.heap.size) aW Z:=cA▸bz.alloc _;obtain⟨bq,a1,a5⟩:=bm.two;obtain⟨hx,aM,cm,he⟩:=aP.o;have bX:=al.2.2.2.2;obtain⟨U,cn⟩:=t.o;have bl:=he.size;have bZ:=g.lt;refine NB (v:=.agg #[.int .i64 _,(0:Int),NF,.slice (some ⟨aW,0,none⟩) 1 1]) (by simp[results,Tryz.results128,go_sem,bq];rfl) rfl ?_;have m:Sl Z (fresh w Z) cW bh (x.args.map bo):=(cm.ak λb O=>a4.block b O.2 (ax O.1)).mono λb O=>⟨by have:=O.1;omega,M0 O.2 a4.size⟩
   refine⟨.un _ x,some ⟨aW,0,none⟩,1,1,rfl,?_,MU _,Sl.nY g (D.bx.2 (aY.2 ⟨cW,bh,cY,rfl,aM,m⟩)) ⟨ad,bZ⟩ rfl,b1.1.cZ a4 (λb O h=>ad),bd⟩;have:=dS.o;obtain⟨d2,rfl⟩:∃d2,d=d2+1:=⟨d - 1,ad⟩
   exact⟨by decide,hx⟩
 have dW:decide (cw<4)=false:=by simpa using bj
 clear a7 b2 bj cn U;go_wp2_with(fail);refine(aZ _ s A n c l 13 H1.1 ad ad).mono ?_;rintro e aW ⟨bR,rfl,i,bn,h,he⟩;have b1:=ah h (H1.2.trans he.fr);have bO:=he.size;clear h he;have H:wrap64 (5+bR)=5+bR:=IntWalk.wrap64_in _ ad;have a2:=ae (show 5<=5+bR/\5+bR<=17 by omega);have S:=ae bO;clear i bn bO dx dW;go_wp2_with(fail);refine(cC.o dS.o _ b1.1 (al.2.1.on b1.2)).mono ?_;rintro e b6 ⟨x,cW,bh,cY,rfl,hx,aM,cm,h,he⟩;have bN:=ah h (b1.2.trans he);have aP:=br hx aM cm he;clear h he hx aM cm;go_wp2_with(fail);refine(cC.o dS.o _ bN.1 (al.2.1.on bN.2)).mono ?_;rintro e cO ⟨y,c8,da,db,rfl,hx,aM,cm,h,he⟩;have P:=ah h (bN.2.trans he);have bB:=br hx aM cm he;have b4:=al.2.2.2.1.on P.2 (λh=>by have:=al.2.2.2.2;omega);have aE:=ae b4;obtain⟨e0,a6,ag⟩:=b4.two;clear h he hx aM cm b4;go_wp2_with(fail);generalize co:World.setCell _ _ _=Y;have c9:Y=cO.heap.size:=by rw[<-co];simp
 obtain⟨bM,bA,bz⟩:=eg (M:=λb=>b=s) [.int .i64 (5+bR),(0:Int),NF,.slice (some ⟨cO,0,none⟩) 2 2] (by rfl) aE.o (al.2.2.1.trans P.2) (MU _) co;generalize cA:World.alloc _ _=Z;have bm:=bM.alloc (.cells #[.int .i64 x.a5,.int .i64 x.numOf,.string x.bw,.slice cW bh cY,.int .i64 y.a5,.int .i64 y.numOf,.string y.bw,.slice c8 da db] 37);rw[cA] at bm;have g:an Z cO 37 #[.int .i64 x.a5,.int .i64 x.numOf,.string x.bw,.slice cW bh cY,.int .i64 y.a5,.int .i64 y.numOf,.string y.bw,.slice c8 da db]:=cA▸an.gF _ _ _ c9.symm;have bd:Fr (λb=>b=s) w Z:=cA▸bA.alloc _;have a4:Fr (λb=>b=w.heap.size) cO Z:=cA▸bz.alloc _;obtain⟨bq,a1,a5⟩:=bm.two;obtain⟨hx,aM,cm,he⟩:=aP.o;obtain⟨bb,c5,cX,bF⟩:=bB.o;have bX:=al.2.2.2.2;obtain⟨U,cn⟩:=t.o;have bO:=S.o;have bl:=he.size;have bg:=bF.size;have bZ:=g.lt;refine NB (v:=.agg #[.int .i64 (5+bR),(0:Int),NF,.slice (some ⟨cO,0,none⟩) 2 2]) (by simp[results,Tryz.results128,go_sem,bq]) rfl ?_;have m:Sl Z (fresh w Z) cW bh (x.args.map bo):=(cm.ak λb O=>(a4.block b (ax O.2) (ax O.1)).trans (bF.block b O.2 (ax O.1))).mono λb O=>⟨by have:=O.1;omega,by have:=O.2;omega⟩
 have F:Sl Z (fresh w Z) c8 da (y.args.map bo):=(cX.ak λb O=>a4.block b O.2 (ax O.1)).mono λb O=>⟨by have:=O.1;omega,by have:=O.2;omega⟩
 refine⟨.bin (5+bR) x y,some ⟨cO,0,none⟩,2,2,rfl,?_,MU _,Sl.nY g (hb.2 ⟨_,_,rfl,aY.2 ⟨cW,bh,cY,rfl,aM,m⟩,D.bx.2 (aY.2 ⟨c8,da,db,rfl,c5,F⟩)⟩) ⟨ad,bZ⟩ rfl,P.1.cZ a4 (λb O h=>ad),bd⟩;have:=dS.o;obtain⟨d2,rfl⟩:∃d2,d=d2+1:=⟨d - 1,ad⟩
 exact⟨a2.o,hx,bb⟩
theorem pN(s:Nat)(A:NH)(n c:Nat)(l:List Int)(V:NI)(R:NH)(aU aq:Nat)(bH:aU<=1000):∀(d:Nat),d<=5->∀(w:World),cu w s A n c l->nE w s V R aU->
  Calls prog 128 #[.pointer (some ⟨s,0,none⟩),.slice R aU aq,d] w (uy w s A n c l V d)
 | 0,hd,w,h,hN=>vT w s A n c l V R aU aq 0 hd bH h hN (λh=>absurd rfl h)
 | d+1,hd,w,h,hN=>vT w s A n c l V R aU aq (d+1) hd bH h hN (λ_ aW az a=>by
   have:=pN s A n c l V R aU aq bH d ad aW az a;rw[show ((d+1:Nat):Int) - 1=d by omega];exact this)
def al.eV:List aB->al
 | []=>.nil
 | .set v n e::l=>.set v n e (eV l)
 | .call g n aY::l=>.call g n aY (eV l)
 | .lock u r::l=>.lock u r (eV l)
 | .ite e th el::l=>.ite e th el (eV l)
 | .gM e th::l=>.gM e th (eV l)
 | .ret::l=>.ret (eV l)
theorem vn:∀l:List aB,(al.eV l).list=l
 | []=>rfl
 | s::l=>by cases s<;>simp only[al.eV,al.list,vn l]
theorem mV(l:List aB):dc (.eV l)=l.map bk:=by rw[cM,vn]
def aB.decl:aB->List ByteArray
 | .set true n _=>[n]
 | _=>[]
def decls(l:List aB):List ByteArray:=l.flatMap aB.decl
theorem r8(l m:List aB):decls (l++m)=decls l++decls m:=List.flatMap_append
def al.all:al->List ByteArray
 | .nil=>[]
 | .set true n _ rest=>n::rest.all
 | .set false _ _ rest=>rest.all
 | .call _ _ _ rest=>rest.all
 | .lock _ _ rest=>rest.all
 | .ite _ th el rest=>th.all++el.all++rest.all
 | .gM _ th rest=>th.all++rest.all
 | .ret rest=>rest.all
def aB.all:aB->List ByteArray
 | .set true n _=>[n]
 | .ite _ th el=>th.all++el.all
 | .gM _ th=>th.all
 | _=>[]
theorem all_cons(s:aB)(l:List aB):(al.eV (s::l)).all=s.all++(al.eV l).all:=by
 cases s with
 | set v n e=>cases v<;>rfl
 | ite e th el=>simp[al.eV,al.all,aB.all]
 | gM e th=>simp[al.eV,al.all,aB.all]
 | call g n aY=>rfl
 | lock u r=>rfl
 | ret=>rfl
theorem yA(l m:List aB):(al.eV (l++m)).all=(al.eV l).all++(al.eV m).all:=by
 induction l with
 | nil=>rfl
 | cons s l aq=>rw[Nj,all_cons,all_cons,aq,Ni]
theorem EO(s:aB){n:ByteArray}(h:n∈s.decl):n∈s.all:=by
 cases s with
 | set v n e=>cases v<;>simp_all [aB.decl,aB.all]
 | _=>simp[aB.decl] at h
theorem zy(l:List aB){n:ByteArray}(h:n∈decls l):n∈(al.eV l).all:=by
 induction l with
 | nil=>simp[decls] at h
 | cons s l aq=>
  rw[all_cons];unfold decls at h;rw[No] at h;rcases Nc.1 h with h|h
  .exact Nc.2 (.inl (EO s h))
  .exact Nc.2 (.inr (aq h))
def aB.num:aB->Nat
 | .ite _ th el=>th.num+el.num+1
 | .gM _ th=>th.num+1
 | _=>1
theorem k2(s:aB)(l:List aB):(al.eV (s::l)).num=s.num+(al.eV l).num:=by
 cases s<;>simp only[al.eV,al.num,aB.num]<;>omega
theorem yW(l m:List aB):(al.eV (l++m)).num=(al.eV l).num+(al.eV m).num:=by
 induction l with
 | nil=>simp[al.eV,al.num]
 | cons s l aq=>rw[Nj,k2,k2,aq,Nat.add_assoc]
theorem tS(s:aB):(al.eV [s]).num=s.num:=by rw[k2];simp[al.eV,al.num]
theorem vh(l:List aB):l.length<=(al.eV l).num:=by
 induction l with
 | nil=>simp
 | cons s l aq=>
  rw[k2];have:1<=s.num:=by cases s<;>simp[aB.num]
  simp;omega
def HM(G:Env)(d:Nat)(V T:NI):aB->Prop
 | .set true n e=>bB n.data.toList=true/\n∉T/\e.src V 2
 | .set false n e=>n∈V/\e.src V 2
 | .call _ n aY=>∃ps,(n,ps)∈G.funcs/\ix G V ps aY
 | .lock _ r=>rI G V r
 | .ite e th el=>∃k,d=k+1/\e.src V 2/\eX G k V T th/\eX G k V T el
 | .gM e th=>∃k,d=k+1/\e.src V 2/\eX G k V T th
 | .ret=>True
theorem lQ:eX G d V T .nil:=by cases d<;>trivial
theorem nA{s:aB}:eX G d V T (.eV (s::l))↔HM G d V T s/\eX G d (V++s.decl) (T++s.decl) (.eV l):=by
 cases s with
 | set v n e=>
  cases v
  .simp only[al.eV,aB.decl,HM,Nt];cases d<;>exact⟨λh=>⟨⟨h.1,h.2.1⟩,h.2.2⟩,λh=>⟨h.1.1,h.1.2,h.2⟩⟩
  .simp only[al.eV,aB.decl,HM]
   cases d<;>exact⟨λh=>⟨⟨h.1,h.2.1,h.2.2.1⟩,h.2.2.2⟩,λh=>⟨h.1.1,h.1.2.1,h.1.2.2,h.2⟩⟩
 | call g n aY=>
  exact A4
 | lock u r=>
  exact A4
 | ite e th el=>
  simp only[al.eV,aB.decl,HM,Nt]
  cases d with
  | zero=>exact⟨λh=>h.elim,λ⟨⟨k,h,_⟩,_⟩=>ad⟩
  | succ d=>exact⟨λh=>⟨⟨d,rfl,h.1,h.2.1,h.2.2.1⟩,h.2.2.2⟩,λ⟨⟨k,h,ac,az,aV⟩,aU⟩=>by
    obtain rfl:d=k:=ad
    exact⟨ac,az,aV,aU⟩⟩
 | gM e th=>
  simp only[al.eV,aB.decl,HM,Nt]
  cases d with
  | zero=>exact⟨λh=>h.elim,λ⟨⟨k,h,_⟩,_⟩=>ad⟩
  | succ d=>exact⟨λh=>⟨⟨d,rfl,h.1,h.2.1⟩,h.2.2⟩,λ⟨⟨k,h,ac,az⟩,aU⟩=>by
    obtain rfl:d=k:=ad
    exact⟨ac,az,aU⟩⟩
 | ret=>
  simp only[al.eV,aB.decl,HM,Nt,true_and];cases d<;>exact Iff.rfl
theorem uo{G:Env}{d:Nat}:∀{V T:NI} {l m:List aB},eX G d V T (.eV (l++m))↔eX G d V T (.eV l)/\eX G d (V++decls l) (T++decls l) (.eV m)
 | V,T,[],m=>by simp[decls,al.eV,lQ]
 | V,T,s::l,m=>by
  have aq:=uo (G:=G) (d:=d) (V:=V++s.decl) (T:=T++s.decl) (l:=l) (m:=m);rw[Nj,nA,nA,aq];simp only[decls,No,Ni];exact and_assoc.symm
theorem uq{s:aB}:eX G d V T (.eV [s])↔HM G d V T s:=by
 rw[nA];exact⟨λh=>h.1,λh=>⟨h,lQ⟩⟩
theorem dR{V aU:NI}(h:V ⊆ aU):∀(d:Nat) (x:VE),x.src V d->x.src aU d
 | d,.num _,hx=>by cases d<;>exact hx
 | d,.gU s,hx=>by
  have g:s∈V:=by cases d<;>exact hx
  have:=h g
  cases d<;>exact this
 | d,.loc _,hx=>by cases d<;>exact hx.elim
 | d,.ij _,hx=>by cases d<;>exact hx.elim
 | 0,.un _ _,hx=>hx.elim
 | 0,.bin _ _ _,hx=>hx.elim
 | d+1,.un _ x,hx=>⟨hx.1,dR h d x hx.2⟩
 | d+1,.bin _ x y,hx=>⟨hx.1,dR h d x hx.2.1,dR h d y hx.2.2⟩
theorem la{aU:NI}(h:V ⊆ aU){r:eY}(ba:rI G V r):rI G aU r:=by
 rcases ba with⟨m,hm,hn,ac,az⟩|hp
 .exact .inl ⟨m,hm,hn,λhs=>by obtain⟨e,he,aw⟩:=ac hs;exact⟨e,he,dR h 2 e aw⟩,az⟩
 .exact .inr hp
theorem oq{G:Env}{V aU:NI}(h:V ⊆ aU):∀(ps:List (ByteArray×Bool)) (aY:List dq),ix G V ps aY->ix G aU ps aY
 | [],[],_=>trivial
 | p::ps,a::aY,bg=>by
  refine⟨?_,oq h ps aY bg.2⟩
  cases a with
  | mx r=>exact⟨bg.1.1,la h bg.1.2⟩
  | ex e=>exact⟨bg.1.1,dR h 2 e bg.1.2⟩
 | [],_::_,bg=>bg.elim
 | _::_,[],bg=>bg.elim
theorem F7{aU:NI}(h:V ⊆ aU)(m:NI):V++m ⊆ aU++m:=λx hx=>by
 rcases Nc.1 hx with hx|hx
 .exact Nc.2 (.inl (h hx))
 .exact Nc.2 (.inr hx)
theorem wX{A a9:NI}{n:ByteArray}(h:∀x∈A,x∈a9->x∈T):∀x∈A,x∈a9++[n]->x∈T++[n]:=λx hx hm=>by
 rcases Nc.1 hm with hm|hm
 .exact Nc.2 (.inl (h x hx hm))
 .exact Nc.2 (.inr hm)
theorem dn{G:Env}:∀(b:al) (d a:Nat) (V aU T a9:NI),V ⊆ aU->(∀n∈b.all,n∈a9->n∈T)->d<=a->eX G d V T b->eX G a aU a9 b
 | .nil,d,a,V,aU,T,a9,hV,hT,hd,h=>lQ
 | .set true n e rest,d,a,V,aU,T,a9,hV,hT,hd,h=>by
  have q:bB n.data.toList=true/\n∉T/\e.src V 2/\eX G d (V++[n]) (T++[n]) rest:=by cases d<;>exact h
  have aq:=dn rest d a (V++[n]) (aU++[n]) (T++[n]) (a9++[n]) (F7 hV _) (wX λx hx=>hT x (by simp[al.all,hx])) hd q.2.2.2;have r:bB n.data.toList=true/\n∉a9/\e.src aU 2/\eX G a (aU++[n]) (a9++[n]) rest:=⟨q.1,λhm=>q.2.1 (hT n (by simp[al.all]) hm),dR hV 2 e q.2.2.1,aq⟩
  cases a<;>exact r
 | .set false n e rest,d,a,V,aU,T,a9,hV,hT,hd,h=>by
  have q:n∈V/\e.src V 2/\eX G d V T rest:=by cases d<;>exact h
  have aq:=dn rest d a V aU T a9 hV (λx hx=>hT x (by simp[al.all,hx])) hd q.2.2;have r:n∈aU/\e.src aU 2/\eX G a aU a9 rest:=⟨hV q.1,dR hV 2 e q.2.1,aq⟩
  cases a<;>exact r
 | .call g n aY rest,d,a,V,aU,T,a9,hV,hT,hd,h=>by
  have q:(∃ps,(n,ps)∈G.funcs/\ix G V ps aY)/\eX G d V T rest:=by cases d<;>exact h
  have aq:=dn rest d a V aU T a9 hV (λx hx=>hT x (by simp[al.all,hx])) hd q.2;obtain⟨ps,cc,aI⟩:=q.1;have r:(∃ps,(n,ps)∈G.funcs/\ix G aU ps aY)/\eX G a aU a9 rest:=⟨⟨ps,cc,oq hV ps aY aI⟩,aq⟩
  cases a<;>exact r
 | .lock u r rest,d,a,V,aU,T,a9,hV,hT,hd,h=>by
  have q:rI G V r/\eX G d V T rest:=by cases d<;>exact h
  have aq:=dn rest d a V aU T a9 hV (λx hx=>hT x (by simp[al.all,hx])) hd q.2;have r:rI G aU r/\eX G a aU a9 rest:=⟨la hV q.1,aq⟩
  cases a<;>exact r
 | .ite e th el rest,0,a,V,aU,T,a9,hV,hT,hd,h=>h.elim
 | .gM e th rest,0,a,V,aU,T,a9,hV,hT,hd,h=>h.elim
 | .ite e th el rest,d+1,0,V,aU,T,a9,hV,hT,hd,h=>ad
 | .gM e th rest,d+1,0,V,aU,T,a9,hV,hT,hd,h=>ad
 | .ite e th el rest,d+1,a+1,V,aU,T,a9,hV,hT,hd,h=>
  ⟨dR hV 2 e h.1,dn th d a V aU T a9 hV (λx hx=>hT x (by simp[al.all,hx])) ad h.2.1,
   dn el d a V aU T a9 hV (λx hx=>hT x (by simp[al.all,hx])) ad h.2.2.1,dn rest (d+1) (a+1) V aU T a9 hV (λx hx=>hT x (by simp[al.all,hx])) hd h.2.2.2⟩
 | .gM e th rest,d+1,a+1,V,aU,T,a9,hV,hT,hd,h=>
  ⟨dR hV 2 e h.1,dn th d a V aU T a9 hV (λx hx=>hT x (by simp[al.all,hx])) ad h.2.1,dn rest (d+1) (a+1) V aU T a9 hV (λx hx=>hT x (by simp[al.all,hx])) hd h.2.2⟩
 | .ret rest,d,a,V,aU,T,a9,hV,hT,hd,h=>by
  have q:eX G d V T rest:=by cases d<;>exact h
  have aq:=dn rest d a V aU T a9 hV (λx hx=>hT x (by simpa[al.all] using hx)) hd q;cases a<;>exact aq
def hW(k:Nat):ByteArray:=⟨#[118,UInt8.ofNat (97+k % 26),UInt8.ofNat (97+k / 26 % 26)]⟩
theorem Ai(bi:j<26)(aj:k<26)(h:hW j=hW k):j=k:=by
 unfold hW at h;rw[ByteArray.ext_iff] at h;have az:=congrArg (λa:Array UInt8=>a[1]!) h;have aV:(UInt8.ofNat (97+j % 26)).toNat=(UInt8.ofNat (97+k % 26)).toNat:=congrArg UInt8.toNat az;simp at aV;omega
theorem Gi(aj:k<26):bB (hW k).data.toList=true:=by
 have:∀k:Fin 26,bB (hW k.val).data.toList=true:=by decide
 exact this ⟨k,aj⟩
structure Made(G:Env)(d:Nat)(V T:NI)(L Y:Nat)(l:List aB):Prop where
 wf:eX G d V T (.eV l)
 all:∀n∈(al.eV l).all,∃k,Y<=k/\k<L/\n=hW k
 num:(al.eV l).num<=2*(L - Y)
 le:Y<=L
theorem Made.nil(G:Env)(d:Nat)(V T:NI)(L:Nat):Made G d V T L L []:=⟨lQ,λn h=>by simp[al.eV,al.all] at h,by simp[al.eV,al.num],MU _⟩
def mM(T:NI)(L:Nat):Prop:=∀k,k<L->hW k∉T
theorem Made.free{Y:Nat}(h:Made G d V T L Y l)(bx:L<=26)(J:mM T L):mM (T++decls l) Y:=λk aj hm=>by
 rcases Nc.1 hm with hm|hm
 .exact J k (ax h.le) hm
 .obtain⟨j,ac,az,aV⟩:=h.all _ (zy l hm);have:=Ai ad ad aV;omega
theorem Made.snoc{ba a6:Nat}(h:Made G d V T L ba l){m:List aB}(hm:eX G d (V++decls l) (T++decls l) (.eV m))(bg:∀n∈(al.eV m).all,∃k,a6<=k/\k<ba/\n=hW k)
  (hn:(al.eV m).num<=2*(ba - a6)) (hle:a6<=ba):Made G d V T L a6 (l++m):=by
 refine⟨uo.2 ⟨h.wf,hm⟩,λn hn=>?_,?_,Nl hle h.le⟩
 .rw[yA] at hn;rcases Nc.1 hn with hn|hn
  .obtain⟨k,ac,az,aV⟩:=h.all n hn;exact⟨k,ad,az,aV⟩
  .obtain⟨k,ac,az,aV⟩:=bg n hn;exact⟨k,ac,by have:=h.le;omega,aV⟩
 .rw[yW];have ac:=h.num;have az:=h.le;omega
def dX(i:Nat):ByteArray:=⟨#[103,UInt8.ofNat (48+i)]⟩
def iV(i:Nat):ByteArray:=⟨#[UInt8.ofNat (97+i)]⟩
def jS(i:Nat):ByteArray:=if i=0 then iW else ⟨#[102,UInt8.ofNat (48+i)]⟩
def vr(i:Nat):ByteArray:=⟨#[112,UInt8.ofNat (48+i)]⟩
def fk:Nat->List ByteArray
 | 0=>[]
 | n+1=>vr (n+1)::fk n
def xZ(ng nm nf:Nat):List ByteArray:=(List.range ng).map dX++(List.range nm).map iV++(List.range nf).map jS
def oF:List ByteArray:=xZ 2 4 4++fk 2
theorem qy:oF.Nodup:=by
 have h:(oF.map λs=>s.data.toList).Nodup:=by decide
 exact(List.pairwise_map.1 h).imp λbl e=>bl (by rw[e])
theorem tC:∀s∈oF,bB s.data.toList=true:=by decide
theorem zI:mM oF 26:=by
 have h:∀k:Fin 26,(hW k.val).data.toList∉oF.map λs=>s.data.toList:=by decide
 intro k aj hm;exact h ⟨k,aj⟩ (Ns.2 ⟨_,hm,rfl⟩)
theorem xy(h:n<=2):(fk n).Sublist (fk 2):=by
 obtain rfl|rfl|rfl:n=0\/n=1\/n=2:=ad
 .exact List.nil_sublist _
 .exact List.Sublist.cons _ (List.Sublist.refl _)
 .exact List.Sublist.refl _
theorem Gd{ng nm nf:Nat}(ac:ng<=2)(az:nm<=4)(aV:nf<=4)(aU:n<=2):(xZ ng nm nf++fk n).Sublist oF:=by
 unfold oF xZ;refine List.Sublist.append (List.Sublist.append (List.Sublist.append ?_ ?_) ?_) (xy aU)
 .exact(List.range_sublist.2 ac).map _
 .exact(List.range_sublist.2 az).map _
 .exact(List.range_sublist.2 aV).map _
theorem nX{α:Type}{f:α->ByteArray}{h:Nat->ByteArray}{l:List α}(hl:∀i x,l[i]?=some x->f x=h i):l.map f=(List.range l.length).map h:=by
 apply List.ext_getElem?
 intro i;rw[List.getElem?_map,List.getElem?_map];by_cases aN:i<l.length
 .have hx:l[i]?=some l[i]:=List.getElem?_eq_getElem aN;rw[hx,List.getElem?_range aN];simp[hl i _ hx]
 .rw[List.getElem?_eq_none ad,List.getElem?_eq_none (by simp;omega)];rfl
structure gS(p:bN):Prop where
 ng:p.globals.length<=2
 nm:1<=p.af.length/\p.af.length<=4
 nf:1<=p.funcs.length/\p.funcs.length<=4
 gs:∀i g,p.globals[i]?=some g->g.1=dX i∧-2<=g.2/\g.2<=2
 ms:∀i m,p.af[i]?=some m->m.name=iV i/\0<=m.size/\m.size<=3/\(m.re=true->m.size=0)
 fs:∀i f,p.funcs[i]?=some f->f.name=jS i/\(∃n,n<=2/\f.params.map (·.1)=fk n)/\(i=0->f.params=[])
theorem gS.xZ{p:bN}(h:gS p):bm p=xZ p.globals.length p.af.length p.funcs.length:=by
 unfold bm fZ YtnigabjngpnbiabGreat.xZ;rw[nX λi x hx=>(h.gs i x hx).1,nX λi x hx=>(h.ms i x hx).1,nX λi x hx=>(h.fs i x hx).1]
theorem gS.sub(h:gS p)(J:f∈p.funcs):(bm p++f.params.map (·.1)).Sublist oF:=by
 obtain⟨i,aN⟩:=List.getElem?_of_mem J;obtain⟨n,hn,hp⟩:=(h.fs i f aN).2.1;rw[h.xZ,hp];exact Gd h.ng h.nm.2 h.nf.2 hn
theorem mE:∀n,(fk n).length=n
 | 0=>rfl
 | n+1=>by simp[fk,mE n]
theorem gS.jo(h:gS p)(J:f∈p.funcs):f.params.length<=2:=by
 obtain⟨i,aN⟩:=List.getElem?_of_mem J;obtain⟨n,hn,hp⟩:=(h.fs i f aN).2.1;have:=congrArg List.length hp;rw[M5,mE] at this;omega
theorem gS.free(h:gS p)(J:f∈p.funcs):mM (bm p++f.params.map (·.1)) 26:=λk aj hm=>zI k aj ((h.sub J).subset hm)
theorem gS.LK(h:gS p):∃f,p.funcs[0]?=some f/\f.name=iW/\f.params=[]:=by
 have:0<p.funcs.length:=h.nf.1;have hx:p.funcs[0]?=some p.funcs[0]:=List.getElem?_eq_getElem this;exact⟨_,hx,(h.fs 0 _ hx).1,(h.fs 0 _ hx).2.2 rfl⟩
theorem gS.env(h:gS p)(J:f∈p.funcs):ov (fG p f):=by
 have aj:∀{f:aI},f∈p.funcs->∀s∈bm p++f.params.map (·.1),bB s.data.toList=true:=λJ s hs=>tC s ((h.sub J).subset hs);refine⟨λm hm=>aj J _ ?_,λq bv=>aj J _ ?_,λg aR=>?_⟩
 .simp only[bm,Nc,Ns];exact .inl (.inl (.inr ⟨m,hm,rfl⟩))
 .simp only[Nc,Ns];exact .inr ⟨q,bv,rfl⟩
 .obtain⟨k,cK,rfl⟩:=Ns.1 aR;refine⟨aj cK _ ?_,h.jo cK⟩;simp only[bm,Nc,Ns];exact .inl (.inr ⟨k,cK,rfl⟩)
theorem gS.vars(h:gS p)(J:f∈p.funcs):dQ (fZ p++cH f.params):=λs hs=>by
 refine tC s ((h.sub J).subset ?_);rcases Nc.1 hs with hs|hs
 .exact Nc.2 (.inl (by simp only[bm,Nc];exact .inl (.inl hs)))
 .obtain⟨q,bv,rfl⟩:=Ns.1 hs;exact Nc.2 (.inr (Ns.2 ⟨q,(List.mem_filter.1 bv).1,rfl⟩))
theorem gS.wf(h:gS p)(O:∀f∈p.funcs,eX (fG p f) 4 (fZ p++cH f.params) (bm p++f.params.map (·.1)) f.body)(hn:(p.funcs.map λf=>f.body.num).sum<=64):pe p:=by
 obtain⟨f0,h0,b,a⟩:=h.LK;have bP:=M4 h0;have hs:=h.sub bP;rw[a] at hs;simp only[Nr,Nt] at hs;refine⟨λs hm=>tC s (hs.subset hm),hs.nodup qy,by have:=h.ng;omega,by have:=h.nm;omega,by have:=h.nf;omega,λg aR=>?_,λm hm=>?_,λf J=>?_,⟨0,f0,h0,b,a⟩,hn⟩
 .obtain⟨i,aN⟩:=List.getElem?_of_mem aR;have:=(h.gs i g aN).2;omega
 .obtain⟨i,aN⟩:=List.getElem?_of_mem hm;have:=(h.ms i m aN).2;exact⟨this.1,ad,this.2.2⟩
 .refine⟨(h.env J).params,h.jo J,(h.sub J).nodup qy,O f J⟩
section
attribute [local go_sem ↓] gI gJ
def Kz(X:List bM)(T:List di)(m th:Int)(i:Nat):Int:=if (own X)[i]?=some m/\(kF T i).owner=th+1/\0<=th then (kF T i).depth else 0
def IB(X:List bM)(T:List di)(m th:Int):Nat->Int
 | 0=>0
 | k+1=>IB X T m th k+Kz X T m th k
def depth(X:List bM)(T:List di)(m th:Int):Int:=IB X T m th (own X).length
end
def gr(u:aw)(s:ai)(t:Int):Option (Int×Int):=
 match dF s t,dC u s t with
 | some f,some x=>if x.op=4 then
   if (bH u s f x.place).2≠0 then none else if free u.af s.table (bH u s f x.place).1 t=true then none
   else some ((bH u s f x.place).1,(kF s.table (bH u s f x.place).1).owner - 1) else none
 | _,_=>none
def zC(u:aw)(s:ai)(t:Int):Bool:=(dC u s t).isSome && (gr u s t).isNone
def iT:Option (Int×Int)->Int
 | none=>-1
 | some r=>r.2
def bq(u:aw)(s:ai):List Int:=(List.range s.threads.length).map λt:Nat=>iT (gr u s (t:Int))
section
variable {u:aw} {D:Nat} {s:ai} {t:Int}
theorem oI(h:dF s t=none):dC u s t=none:=by unfold dC;rw[h];rfl
theorem Gc(h:(s.threads.length:Int)<=t):dF s t=none:=by
 unfold dF;split
 .rfl
 .rw[List.getElem?_eq_none ad];rfl
theorem Gb(h:t<0):dF s t=none:=by unfold dF;rw[if_pos (.inr h)]
theorem rp(h:s.fault≠0):dF s t=none:=by unfold dF;rw[if_pos (.inl h)]
theorem ru(h:dF s t=none):gr u s t=none:=by unfold gr;rw[h]
theorem jh(h:gr u s t=some r):∃f x,dF s t=some f/\dC u s t=some x/\x.op=4/\(bH u s f x.place).2=0/\free u.af s.table (bH u s f x.place).1 t=false/\
  r=((bH u s f x.place).1,(kF s.table (bH u s f x.place).1).owner - 1):=by
 unfold gr at h;split at h
 .rename_i f x J hx;split at h
  .rename_i cp;split at h
   .cases h
   .rename_i E;split at h
    .cases h
    .rename_i b1;injection h with h;exact⟨f,x,J,hx,cp,ad,by simpa using b1,h.symm⟩
  .cases h
 .cases h
theorem GV(hU:cT u)(hS:aP u D s):zC u s t=(bT u s t).2:=by
 unfold zC gr bT
 cases J:dF s t with
 | none=>rw[oI J];rfl
 | some f=>
  cases hx:dC u s t with
  | none=>rfl
  | some x=>
   simp only[Option.isSome_some,Bool.true_and];unfold b5;by_cases ac:x.op=1\/x.op=6
   .rw[if_pos ac,if_neg ad];simp only[]
    repeat' split
    all_goals rfl
   .rw[if_neg ac];by_cases az:x.op=2\/x.op=3
    .rw[if_pos az,if_neg ad];simp only[]
     repeat' split
     all_goals rfl
    .rw[if_neg az];by_cases aU:x.op=4
     .rw[if_pos aU,if_pos (Or.inl aU)];simp only[aU,if_true]
      repeat' split
      all_goals first|rfl|simp_all
     .rw[if_neg aU];simp only[]
      repeat' split
      all_goals first|rfl|omega
theorem fb:(bq u s).length=s.threads.length:=by simp[bq]
theorem oO:oN (bq u s) t=iT (gr u s t):=by
 unfold oN;split
 .rename_i h;rw[ru (Gb h)];rfl
 .rename_i h;rw[List.getD_eq_getElem?_getD];by_cases hl:t.toNat<s.threads.length
  .unfold bq;rw[List.getElem?_map,List.getElem?_range hl];simp only[Option.map_some,Option.getD_some];rw[show ((t.toNat:Nat):Int)=t by omega]
  .rw[List.getElem?_eq_none (by rw[fb];omega),ru (Gc ad)];rfl
theorem zJ(hS:aP u D s)(e:Int):0<=(kF s.table e).owner/\(kF s.table e).owner<=s.threads.length:=by
 unfold kF
 cases h:s.table[e.toNat]? with
 | none=>simp
 | some x=>simpa using (hS.holds _ x h).owner
theorem mv(hS:aP u D s):dh (bq u s):=by
 intro x hx;obtain⟨k,aj,rfl⟩:=Ns.1 hx;rw[fb];have hn:=hS.Ag
 cases h:gr u s (k:Int) with
 | none=>simp only[iT];omega
 | some r=>
  obtain⟨f,x,_,_,_,_,_,rfl⟩:=jh h;have:=zJ hS (bH u s f x.place).1;simp only[iT];omega
theorem qj(hS:aP u D s)(h:t∈fa (bq u s)):∃e o,gr u s t=some (e,o)/\o∈fa (bq u s)/\0<=o:=by
 have hl:=mv hS;have hc:=uK hl h;have h0:=((gk hl).1 hc).1;rw[oO] at hc h0
 cases hw:gr u s t with
 | none=>rw[hw] at h0;simp[iT] at h0
 | some r=>rw[hw] at hc h0;exact⟨r.1,r.2,rfl,hc,h0⟩
def ia:VE->Prop
 | .ij _=>False
 | .un _ x=>ia x
 | .bin _ x y=>ia x/\ia y
 | _=>True
theorem lx(g ah l:List Int):∀x:VE,ia x->ev g l x=ev ah l x
 | .num _,_=>rfl
 | .gU _,_=>rfl
 | .loc _,_=>rfl
 | .ij _,h=>h.elim
 | .un op x,h=>by
  have aq:=lx g ah l x h
  simp only[ev,aq]
 | .bin op x y,h=>by
  have i:=lx g ah l x h.1;have c:=lx g ah l y h.2;simp only[ev,i,c]
structure yi(u:aw)(s:ai)(t e o:Int):Prop where
 waits:gr u s t=some (e,o)
 o0:0<=o
 ia:∀x v,dC u s t=some x->x.place.at_=some v->ia v
theorem w7{aq:ai}{f:ao}{p:bO}(h:∀v,p.at_=some v->ia v):bH u aq f p=bH u s f p:=by
 have aN:c6 u aq f p=c6 u s f p:=by
  unfold c6
  cases hp:p.at_ with
  | none=>rfl
  | some v=>simp only[lx aq.globals s.globals f.ints v (h v hp)]
 unfold bH;rw[aN]
theorem yi.ak{aq:ai}(h:yi u s t e o)(ht:dF aq t=dF s t)(ag:kF aq.table e=kF s.table e):yi u aq t e o:=by
 obtain⟨f,x,J,hx,cp,E,b1,ba⟩:=jh h.waits;have g:dC u aq t=some x:=by
  unfold dC at hx ⊢;rw[ht];exact hx
 have he:=w7 (u:=u) (s:=s) (aq:=aq) (f:=f) (p:=x.place) λv bK=>h.ia x v hx bK;injection ba with ar bF;refine⟨?_,h.o0,λy v bb bK=>?_⟩
 .unfold gr;rw[ht,J,g];simp only[];rw[if_pos cp,he,if_neg ad];have a:free u.af aq.table (bH u s f x.place).1 t=false:=by
   rw[<-ar];rw[<-ar] at b1;unfold free at b1 ⊢;rw[ag];exact b1
  rw[if_neg (by simp[a]),<-ar,ag,<-ar] at *;simp[bF]
 .rw[g] at bb;injection bb with bb;subst bb;exact h.ia x v hx bK
theorem iu{l:List (List ao)}{i:Nat}{g:List ao->List ao}(h:i≠j):(l.modify i g)[j]?=l[j]?:=by
 rw[List.getElem?_modify]
 cases l[j]? with
 | none=>rfl
 | some y=>simp[h]
theorem v5{s aq:ai}(J:aq.fault=s.fault)(h:aq.threads[t.toNat]?=s.threads[t.toNat]?):dF aq t=dF s t:=by
 unfold dF;rw[J,h]
theorem xS(hU:cT u){p:Int}(ht:0<=t/\t<s.threads.length)(hp:p≠t)(bn:s.fault=0)(J:(bT u s p).1.fault=0):dF (bT u s p).1 t=dF s t:=by
 refine v5 (J.trans bn.symm) ?_;unfold bT at J ⊢
 cases bv:dF s p with
 | none=>rfl
 | some f=>
  have i:0<=p:=(j4 bv).2.1;have bl:p.toNat≠t.toNat:=ad
  cases hx:dC u s p with
  | none=>rfl
  | some x=>
   simp only[];unfold b5;simp only[]
   repeat' split
   all_goals simp only[bu,qY,vt]
   all_goals first
    | rfl
    | exact iu bl
    | (rw[iu bl];exact iu bl)
    | (rw[List.getElem?_append_left (by rw[List.length_modify];omega)];exact iu bl)
theorem Fl{T:List di}{l p:Int}(h0:0<=bF X e\/True)(he:0<=e)(bD:(kF T e).owner≠0)(hp:(kF T e).owner≠p+1):kF (fJ X T l p) e=kF T e:=by
 unfold fJ;split
 .rename_i b1;by_cases g:l=e
  .subst g;unfold free at b1;simp[bD,hp] at b1
  .have a:0<=l:=by
    unfold free at b1;simp only[Ng,Ny] at b1;exact(gm.1 b1.1.1).1
   unfold kF;rw[List.getElem?_set_ne ad]
 .rfl
theorem x6{T:List di}{l p:Int}(he:0<=e)(hp:(kF T e).owner≠p+1):kF (c8 X T l p) e=kF T e:=by
 unfold c8;split
 .rename_i ag;by_cases g:l=e
  .subst g;unfold heldBy at ag;simp[hp] at ag
  .have a:0<=l:=by
    unfold heldBy at ag;simp only[Ng,Ny] at ag;exact(gm.1 ag.1.1).1
   unfold kF;rw[List.getElem?_set_ne ad]
 .rfl
theorem xT{p:Int}(he:0<=e)(bD:(kF s.table e).owner≠0)(hp:(kF s.table e).owner≠p+1):kF (bT u s p).1.table e=kF s.table e:=by
 unfold bT
 cases bv:dF s p with
 | none=>rfl
 | some f=>
  cases hx:dC u s p with
  | none=>rfl
  | some x=>
   simp only[];unfold b5;simp only[]
   repeat' split
   all_goals first
    | rfl
    | exact Fl (.inr trivial) he bD hp
    | exact x6 he hp
theorem mI(h:(bT u s t).2=false):(bT u s t).1=s:=by
 unfold bT at h ⊢
 cases bv:dF s t with
 | none=>rfl
 | some f=>
  cases hx:dC u s t with
  | none=>rfl
  | some x=>
   rw[bv,hx] at h;simp only[] at h ⊢;unfold b5 at h ⊢;simp only[] at h ⊢
   repeat' split
   all_goals first
    | rfl
    | (exfalso;simp_all;done)
    | (exfalso;revert h;repeat' split;all_goals simp_all)
theorem oU(hU:cT u)(hS:aP u D s)(h:gr u s t=some (e,o)):0<=e/\(kF s.table e).owner=o+1/\0<=t/\t<s.threads.length:=by
 obtain⟨f,x,J,hx,cp,E,b1,ba⟩:=jh h;injection ba with ar bF;have ht:=hS.top J;refine⟨?_,by rw[ar];omega,ht.2.1,ht.2.2⟩;obtain⟨p,y,hp,bh,bb,len,hlen,aN,_⟩:=qB hU ht.1;have c:x=y:=by
  unfold dC at hx;rw[J] at hx;simp only[Option.bind_some,hp,bb,Nw] at hx;exact hx.symm
 subst c;obtain⟨q,bv,_,_,aj⟩:=ht.1.ex;rw[hp] at bv;injection bv with bv;subst bv;have bo:cK (bg u) p.locals p.az x.place:=by
  rcases aN with⟨ac,_⟩|⟨ac,_⟩|⟨ac,_,az⟩|⟨ac,_⟩|⟨ac,_⟩|⟨ac,_⟩
  .omega
  .omega
  .exact az
  .omega
  .omega
  .omega
 have:=(jN (s:=s) hU ht.1 ad bo).2 ad;rw[ar];exact this.1
theorem nz(h:gr u s t=some r):zC u s t=false:=by unfold zC;rw[h];simp
def eZ(u:aw)(s:ai)(d:List Int):Prop:=∀t∈d,∃e o,yi u s t e o/\o∈d
theorem eZ.step{d:List Int}(hU:cT u)(hS:aP u D s)(h:eZ u s d)(p:Int)(J:(bT u s p).1.fault=0):eZ u (bT u s p).1 d:=by
 by_cases hp:p∈d
 .obtain⟨e,o,hs,_⟩:=h p hp;rw[mI (by rw[<-GV hU hS];exact nz hs.waits)];exact h
 .intro t ht;obtain⟨e,o,hs,bD⟩:=h t ht;obtain⟨f,x,aA,_⟩:=jh hs.waits;obtain⟨ac,az,aV,aU⟩:=oU hU hS hs.waits;have dJ:p≠t:=λe=>hp (by rw[e];exact ht);have ds:p≠o:=λe=>hp (by rw[e];exact bD);have h0:=hs.o0;exact⟨e,o,hs.ak (xS hU ⟨aV,aU⟩ dJ (j4 aA).1 J) (xT ac ad ad),bD⟩
theorem eZ.dead{d:List Int}(hU:cT u)(hS:aP u D s)(h:eZ u s d){t:Int}(ht:t∈d):t∈fa (bq u s):=by
 have key:∀t∈d,0<=t/\t<s.threads.length/\oN (bq u s) t∈d:=λt ht=>by
  obtain⟨e,o,hs,bD⟩:=h t ht;obtain⟨_,_,aV,aU⟩:=oU hU hS hs.waits;exact⟨aV,aU,by rw[oO,hs.waits];exact bD⟩
 exact w5 (mv hS) (S:=λt=>t∈d) (λt ht=>⟨(key t ht).1,(key t ht).2.2⟩) ht (by rw[fb];exact(key t ht).2.1)
theorem w6(hS:aP u D s)(aR:∀t∈fa (bq u s),∀x v,dC u s t=some x->x.place.at_=some v->ia v):eZ u s (fa (bq u s)):=λt ht=>by
 obtain⟨e,o,hw,bD,h0⟩:=qj hS ht;exact⟨e,o,⟨hw,h0,aR t ht⟩,bD⟩
theorem uU(h:s.fault≠0)(p:Int):(bT u s p).1=s:=by
 unfold bT;rw[rp h]
theorem tB(h:s.fault≠0):zC u s t=false:=by unfold zC;rw[oI (rp h)];rfl
def oa(u:aw)(s:ai):Bool:=(List.range s.threads.length).all λt=>!zC u s (t:Int)
end
end Go.Proofs.YtnigabjngpnbiabGreat
