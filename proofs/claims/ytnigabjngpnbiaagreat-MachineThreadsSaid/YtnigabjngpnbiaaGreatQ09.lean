/- Part 9 of the proof. No condition of its own. -/
import Derived.Test.YtnigabjngpnbiaaGreatQ06
namespace Go.Proofs.YtnigabjngpnbiaaGreat
open Go.RowKit Go.Proofs.Tryz
set_option maxRecDepth 1000000
set_option maxHeartbeats 25600000
set_option linter.unusedVariables false
variable{d:D}{m:List D}{cs:List Value}{A:Kj}{p:Prop}{x:VE}{J:World}
def bB:VE->D
 | .num n=>.st [.i 1,.i n,.s ⟨#[]⟩,.sl []]
 | .eP s=>.st [.i 2,.i 0,.s s,.sl []]
 | .loc k=>.st [.i 18,.i k,.s ⟨#[]⟩,.sl []]
 | .hP k=>.st [.i 19,.i k,.s ⟨#[]⟩,.sl []]
 | .un op x=>.st [.i op,.i 0,.s ⟨#[]⟩,.sl [bB x]]
 | .bin op x y=>.st [.i op,.i 0,.s ⟨#[]⟩,.sl [bB x,bB y]]
def jM:D:=.st [.i 0,.i 0,.s ⟨#[]⟩,.sl []]
def m8:Option VE->D
 | none=>jM
 | some x=>bB x
def VE.bP:VE->Int
 | .num _=>1
 | .eP _=>2
 | .loc _=>18
 | .hP _=>19
 | .un op _=>op
 | .bin op _ _=>op
def VE.numOf:VE->Int
 | .num n=>n
 | .loc k=>k
 | .hP k=>k
 | _=>0
def VE.dt:VE->ByteArray
 | .eP s=>s
 | _=>⟨#[]⟩
def VE.args:VE->List VE
 | .un _ x=>[x]
 | .bin _ x y=>[x,y]
 | _=>[]
theorem v3(x:VE):bB x=.st [.i x.bP,.i x.numOf,.s x.dt,.sl (x.args.map bB)]:=by
 cases x<;>simp[bB,VE.bP,VE.numOf,VE.dt,VE.args]
theorem c4(x:VE):(bB x).sz=4:=by rw[v3];rfl
section
variable {w:World} {P:Nat->Prop}
theorem aS:D.aR w P [] cs↔cs=[]:=by simp only[D.aR]
theorem bm{n:Int}{l:List D}:D.aR w P (.i n::l) cs↔∃y,cs=.int .i64 n::y/\D.aR w P l y:=by
 exact Co
theorem eN{n:Bool}{l:List D}:D.aR w P (.b n::l) cs↔∃y,cs=.bool n::y/\D.aR w P l y:=by
 exact Co
theorem dj{n:ByteArray}{l:List D}:D.aR w P (.s n::l) cs↔∃y,cs=.string n::y/\D.aR w P l y:=by
 exact Co
theorem aO{l:List D}:D.aR w P (.sl m::l) cs↔∃A n c y,cs=.slice A n c::y/\n<=c/\Sl w P A n m/\D.aR w P l y:=by
 constructor
 .intro h;simp only[D.aR] at h;obtain⟨x,y,rfl,hx,h⟩:=h;obtain⟨A,c,n,rfl,hc,hs⟩:=D.rH.1 hx;exact⟨A,n,c,y,rfl,hc,hs,h⟩
 .rintro⟨A,n,c,y,rfl,hc,hs,h⟩;simp only[D.aR];exact⟨_,y,rfl,D.rH.2 ⟨A,c,n,rfl,hc,hs⟩,h⟩
theorem bK:(D.st m).rep w P cs↔D.aR w P m cs:=by simp only[D.rep]
theorem bj:(bB x).rep w P cs↔∃A n c,cs=[.int .i64 x.bP,.int .i64 x.numOf,.string x.dt,.slice A n c]/\n<=c/\Sl w P A n (x.args.map bB):=by
 rw[v3,bK,bm];constructor
 .rintro⟨y,rfl,h⟩;obtain⟨b5,rfl,ac⟩:=bm.1 h;obtain⟨b3,rfl,ap⟩:=dj.1 ac;obtain⟨A,n,c,bA,rfl,hc,hs,aD⟩:=aO.1 ap;exact qO
 .rintro⟨A,n,c,rfl,hc,hs⟩;exact⟨_,rfl,bm.2 ⟨_,rfl,dj.2 ⟨_,rfl,aO.2 ⟨A,n,c,[],rfl,hc,hs,aS.2 rfl⟩⟩⟩⟩
theorem eF:jM.rep w P cs↔∃A c,cs=[.int .i64 0,.int .i64 0,.string ⟨#[]⟩,.slice A 0 c]:=by
 unfold jM;rw[bK,bm];constructor
 .rintro⟨y,rfl,h⟩;obtain⟨b5,rfl,ac⟩:=bm.1 h;obtain⟨b3,rfl,ap⟩:=dj.1 ac;obtain⟨A,n,c,bA,rfl,hc,hs,aD⟩:=aO.1 ap;rw[aS] at aD;subst aD;obtain rfl:n=0:=hs.1.symm;exact⟨A,c,rfl⟩
 .rintro⟨A,c,rfl⟩;exact⟨_,rfl,bm.2 ⟨_,rfl,dj.2 ⟨_,rfl,aO.2 ⟨A,0,c,[],rfl,J4 _,Sl.c7 A,aS.2 rfl⟩⟩⟩⟩
theorem Sl.Dj(h:Sl w P A 1 [d])(bi:d.sz=4):∃b o bl Z U F,A=some ⟨b,o,none⟩/\P b/\d.rep w P [bl,Z,U,F]/\
  w.cell? ⟨b,o,none⟩=some bl/\w.cell? ⟨b,o+1,none⟩=some Z/\w.cell? ⟨b,o+2,none⟩=some U/\w.cell? ⟨b,o+3,none⟩=some F:=by
 obtain⟨b,o,c,cs,bu,O,hd,aZ,hl,hc⟩:=h.at_ (z:=4) (k:=0) (λe he=>by simp at he;subst he;exact bi) ad;simp at hd;subst hd
 match cs,hl with
 | [bl,Z,U,F],_=>
  have h0:=hc 0 bl rfl;have ac:=hc 1 Z rfl;have ap:=hc 2 U rfl;have aD:=hc 3 F rfl;simp only[Nat.zero_mul,JS] at h0 ac ap aD;exact⟨b,o,bl,Z,U,F,bu,O,aZ,h0,ac,ap,aD⟩
theorem Sl.IG{e:D}(h:Sl w P A 2 [d,e])(bi:d.sz=4)(dc:e.sz=4):∃b o bl Z U F cD b5 b3 bA,A=some ⟨b,o,none⟩/\P b/\d.rep w P [bl,Z,U,F]/\e.rep w P [cD,b5,b3,bA]/\
  w.cell? ⟨b,o,none⟩=some bl/\w.cell? ⟨b,o+1,none⟩=some Z/\w.cell? ⟨b,o+2,none⟩=some U/\w.cell? ⟨b,o+3,none⟩=some F/\
  w.cell? ⟨b,o+4,none⟩=some cD/\w.cell? ⟨b,o+5,none⟩=some b5/\w.cell? ⟨b,o+6,none⟩=some b3/\w.cell? ⟨b,o+7,none⟩=some bA:=by
 have u:∀x∈[d,e],x.sz=4:=λx hx=>by
  simp at hx;rcases hx with rfl|rfl<;>assumption
 obtain⟨b,o,c,cs,bu,O,hd,aZ,hl,hc⟩:=h.at_ (z:=4) (k:=0) u ad;obtain⟨Y,ai,l,a,am,_,he,T,bO,aO⟩:=h.at_ (z:=4) (k:=1) u ad;rw[bu] at am;injection am with am;injection am with aN i;subst aN i;simp at hd he;subst hd he
 match cs,hl,a,bO with
 | [bl,Z,U,F],_,[cD,b5,b3,bA],_=>
  have h0:=hc 0 bl rfl;have ac:=hc 1 Z rfl;have ap:=hc 2 U rfl;have aD:=hc 3 F rfl;have cX:=aO 0 cD rfl;have cp:=aO 1 b5 rfl;have bE:=aO 2 b3 rfl;have cB:=aO 3 bA rfl;simp only[Nat.zero_mul,JS,Nat.one_mul,Nat.add_assoc,Nat.reduceAdd] at h0 ac ap aD cX cp bE cB;exact⟨b,o,bl,Z,U,F,cD,b5,b3,bA,bu,O,aZ,T,h0,ac,ap,aD,cX,cp,bE,cB⟩
theorem jZ:∀(x:VE) (cs:List Value),(bB x).rep w P cs->x.rep w P cs
 | .num n,cs,h=>by
  obtain⟨A,n,c,rfl,_,hs⟩:=bj.1 h;obtain rfl:n=0:=hs.1.symm
  exact⟨_,_,_,rfl⟩
 | .eP s,cs,h=>by
  obtain⟨A,n,c,rfl,_,hs⟩:=bj.1 h;obtain rfl:n=0:=hs.1.symm
  exact⟨_,_,_,rfl⟩
 | .loc k,cs,h=>by
  obtain⟨A,n,c,rfl,_,hs⟩:=bj.1 h;obtain rfl:n=0:=hs.1.symm
  exact⟨_,_,_,rfl⟩
 | .hP k,cs,h=>by
  obtain⟨A,n,c,rfl,_,hs⟩:=bj.1 h;obtain rfl:n=0:=hs.1.symm
  exact⟨_,_,_,rfl⟩
 | .un op x,cs,h=>by
  obtain⟨A,n,c,rfl,_,hs⟩:=bj.1 h;obtain rfl:n=1:=hs.1.symm;obtain⟨b,o,bl,Z,U,F,rfl,O,aZ,c0,c1,c2,c3⟩:=Sl.Dj hs (c4 x)
  exact⟨_,_,b,o,c,bl,Z,U,F,rfl,O,jZ x _ aZ,c0,c1,c2,c3⟩
 | .bin op x y,cs,h=>by
  obtain⟨A,n,c,rfl,_,hs⟩:=bj.1 h;obtain rfl:n=2:=hs.1.symm;obtain⟨b,o,bl,Z,U,F,cD,b5,b3,bA,rfl,O,aZ,T,c0,c1,c2,c3,d0,d1,d2,d3⟩:=Sl.IG hs (c4 x) (c4 y);exact⟨_,_,b,o,c,bl,Z,U,F,cD,b5,b3,bA,rfl,O,jZ x _ aZ,jZ y _ T,c0,c1,c2,c3,d0,d1,d2,d3⟩
end
def kF(r:eR):D:=.st [.s r.name,.sl (r.idx.toList.map bB)]
def fM:D:=.st [.s ⟨#[]⟩,.sl []]
def eg:dh->D
 | .mx r=>.st [.b true,kF r,jM]
 | .ex e=>.st [.b false,fM,bB e]
def gG(kind:Int)(name:ByteArray)(e r:D)(args th el:List D):D:=.st [.i kind,.s name,e,r,.sl args,.sl th,.sl el]
def dw:an->List D
 | .nil=>[]
 | .set v n e rest=>gG (if v then 1 else 2) n (bB e) fM [] [] []::dw rest
 | .call g n aH rest=>gG (if g then 4 else 3) n jM fM (aH.map eg) [] []::dw rest
 | .lock u r rest=>gG (if u then 6 else 5) ⟨#[]⟩ jM (kF r) [] [] []::dw rest
 | .ite e th el rest=>gG 7 ⟨#[]⟩ (bB e) fM [] (dw th) (dw el)::dw rest
 | .fL e th rest=>gG 8 ⟨#[]⟩ (bB e) fM [] (dw th) []::dw rest
 | .ret rest=>gG 9 ⟨#[]⟩ jM fM [] [] []::dw rest
def dU(p:ByteArray×Bool):D:=.st [.s p.1,.b p.2]
def fA(f:a1):D:=.st [.s f.name,.sl (f.params.map dU),.sl (dw f.body)]
def od(g:ByteArray×Int):D:=.st [.s g.1,.i g.2]
def eL(m:bI):D:=.st [.s m.name,.b m.re,.i m.size]
def c8(p:bN):D:=.st [.b p.param,.i p.index,.sl (p.at_.toList.map bB)]
def dH(x:ax):D:=.st [.i x.op,.i x.target,.b x.c5,m8 x.expr,c8 x.place,.sl (x.ints.map bB),.sl (x.places.map c8)]
def fB(p:cG):D:=.st [.s p.name,.i p.ints,.i p.aq,.i p.locals,.sl (p.code.map dH)]
def CS(u:ay):D:=.st [.sl (u.globals.map D.i),.sl (u.af.map eL),.sl (u.procs.map fB),.i u.main]
def dP(f:ai):D:=.st [.i f.proc,.i f.pc,.sl (f.ints.map D.i),.sl (f.aq.map D.i)]
def jg(t:List ai):D:=.st [.sl (t.map dP)]
def kE(h:cp):D:=.st [.i h.owner,.i h.depth]
section
attribute [local go_sem ↓] fH fI
theorem jz(b:Bool)(w:World):Calls prog 154 #[.bool b] w λe J=>e=.returned (.int .i64 (eH b))/\w=J:=by
 cases b<;>(go_enter func154,ntmps154;go_wp2;go_ret;exact⟨rfl,rfl⟩)
theorem g8(b:Bool)(w:World):Calls prog 115 #[.bool b] w λe J=>e=.returned (.int .i64 (eH b))/\w=J:=by
 cases b<;>(go_enter func115,ntmps115;go_wp2;go_ret;exact⟨rfl,rfl⟩)
theorem mK(A:Kj)(n c:Nat)(l:List Int)(k:Int)(w:World)(h:cB (EF dr) 1 w w.heap.size A n l)(h0:0<=k)(ac:k<n) :
  Calls prog 153 #[.slice A n c,.int .i64 k] w λe J=>e=.returned (.int .i64 (l.getD k.toNat 0))/\w=J:=by
 obtain⟨j,rfl⟩:=JN h0;obtain⟨b,o,x,rfl,O,hx,hc⟩:=h.int (show j<n by omega);have be:j<n:=ad;have aJ:=ae (show l.getD (j:Int).toNat 0=x by rw[J3,List.getD_eq_getElem?_getD,hx];rfl);clear hx h;go_enter func153,ntmps153;go_wp2;go_ret;exact⟨ret_int (by rw[aJ.o]),rfl⟩
theorem lT(a b:Int)(O:b≠0)(w:World) :
  Calls prog 116 #[.int .i64 a,.int .i64 b] w λe J=>e=.returned (.int .i64 (wrap64 (a.tdiv b)))/\w=J:=by
 by_cases ac:b = -1
 .subst ac;go_enter func116,ntmps116;go_wp2;go_ret;exact⟨ret_int (by rw[Int.tdiv_neg,Int.tdiv_one]),rfl⟩
 .have bX:(b == -1)=false:=by simpa using ac
  have co:(b == 0)=false:=by simpa using O
  go_enter func116,ntmps116;go_wp2;go_ret;exact⟨rfl,rfl⟩
def fx(w:World)(r:Int×Int)(e:Ending)(J:World):Prop:=e=.returned (.tuple #[.int .i64 r.1,.int .i64 r.2])/\Below w.heap.size w J
theorem fx.mk'{w:World}{r:Int×Int}{a b:Int}(aZ:r=(a,b))(O:Below w.heap.size w J):fx w r (.returned (.tuple #[.int .i64 a,.int .i64 b])) J:=by
 subst aZ;exact⟨rfl,O⟩
theorem nV(op a b:Int)(h:5<=op/\op<=15)(w:World) :
  Calls prog 155 #[.int .i64 op,.int .i64 a,.int .i64 b] w (fx w (arith op a b)):=by
 by_cases hdiv:(op=6\/op=7)/\b=0
 .obtain⟨cf,rfl⟩:=hdiv;rcases cf with rfl|rfl
  all_goals
   go_enter func155,ntmps155;go_wp2
   go_ret2
   exact fx.mk' rfl (Below.refl _ _)
 .obtain rfl|rfl|rfl|rfl|rfl|rfl|rfl|rfl|rfl|rfl|rfl:op=5\/op=6\/op=7\/op=8\/op=9\/op=10\/op=11\/op=12\/op=13\/op=14\/op=15:=ad
  case inr.inl=>
   have O:b≠0:=λan=>hdiv ⟨.inl rfl,an⟩;have co:(b == 0)=false:=by simpa using O
   have HA:=ae (show arith 6 a b=(wrap64 (a.tdiv b),0) by unfold arith;simp[O]);clear hdiv h;go_enter func155,ntmps155;go_wp2
   go_ret2
   exact fx.mk' HA.o (Below.refl _ _)
  case inr.inr.inl=>
   have O:b≠0:=λan=>hdiv ⟨.inr rfl,an⟩;have co:(b == 0)=false:=by simpa using O
   have HA:=ae (show arith 7 a b=(a.tmod b,0) by unfold arith;simp[O]);clear hdiv h;go_enter func155,ntmps155;go_wp2
   go_ret2
   exact fx.mk' HA.o (Below.refl _ _)
  all_goals
   clear hdiv h;go_enter func155,ntmps155;go_wp2_with((go_at_call 154;refine(jz _ _).mono ?_;rintro e J ⟨rfl,rfl⟩))
   go_ret2
   exact fx.mk' rfl (Below.refl _ _)
end
section
attribute [local go_sem ↓] fH fI
structure kQ(w:World)(G L:Kj)(ng nl:Nat)(g l:List Int)(e:VE)(cs:List Value):Prop where
 gs:cB (EF dr) 1 w w.heap.size G ng g
 ls:cB (EF dr) 1 w w.heap.size L nl l
 ok:e.ok ng nl
 rep:e.at_ w cs
theorem kQ.on{w:World}{G L:Kj}{ng nl:Nat}{g l:List Int}{e:VE}(h:kQ w G L ng nl g l e cs)(O:Below w.heap.size w J):kQ J G L ng nl g l e cs:=
 ⟨h.gs.eQ O O.size,h.ls.eQ O O.size,h.ok,VE.Hm h.rep O⟩
def iE(e:VE):Prop:=∀(w:World) (G L:Kj) (ng nl t cl:Nat) (g l:List Int) (c0 c1 c2 c3:Value),kQ w G L ng nl g l e [c0,c1,c2,c3]->
 Calls prog 113 #[.agg #[.slice G ng t,.slice L nl cl],.agg #[c0,c1,c2,c3]] w (fx w (ev g l e))
def jd(e:VE):Prop:=∀(w:World) (G L:Kj) (ng nl t cl:Nat) (g l:List Int) (c0 c1 c2 c3:Value),kQ w G L ng nl g l e [c0,c1,c2,c3]->
 Calls prog 141 #[.agg #[.slice G ng t,.slice L nl cl],.agg #[c0,c1,c2,c3]] w (fx w (ev g l e))
def nH(e:VE):Prop:=∀(w:World) (G L:Kj) (ng nl t cl:Nat) (g l:List Int) (c0 c1 c2 c3:Value),kQ w G L ng nl g l e [c0,c1,c2,c3]->
 Calls prog 142 #[.agg #[.slice G ng t,.slice L nl cl],.agg #[c0,c1,c2,c3]] w (fx w (ev g l e))
theorem kU{w:World}(a b:Obj):Below w.heap.size w ((w.alloc a).alloc b):=((Below.refl _ _).alloc (JI _) _).alloc (by simp) _
theorem va(n:Int):jd (.num n):=by
 intro w G L ng nl t cl g l c0 c1 c2 c3 h;obtain⟨nm,A,c,aB⟩:=h.rep;injection aB with h0 aB;injection aB with ac aB;injection aB with ap aB;injection aB with aD aB;subst h0 ac ap aD;clear h aB;go_enter func141,ntmps141;go_wp2
 go_ret2
 exact fx.mk' rfl (kU _ _)
namespace AF
theorem Ai(h:p:=by
 have i:=ae bz;clear E e0 e1 e2 e3 bz;have al:∀V:World,Below W.heap.size W V->V.cell? ⟨w.heap.size,0,none⟩=some (.slice G ng t)/\V.cell? ⟨w.heap.size,1,none⟩=some (.slice L nl cl)/\V.cell? ⟨w.heap.size+1,0,none⟩=some (.int .i64 op)/\V.cell? ⟨w.heap.size+1,3,none⟩=some (.slice (some ⟨b,o,none⟩) 1 c)/\
   V.cell? ⟨b,o,none⟩=some bl/\V.cell? ⟨b,o+1,none⟩=some Z/\V.cell? ⟨b,o+2,none⟩=some U/\V.cell? ⟨b,o+3,none⟩=some F:=λV hV=>by
  have bH:=i.o;have H:b<W.heap.size:=by have:=O;omega
  exact⟨(hV.cell (p:=⟨w.heap.size,0,none⟩) (by simp only[];omega)).trans a0,(hV.cell (p:=⟨w.heap.size,1,none⟩) (by simp only[];omega)).trans q,(hV.cell (p:=⟨w.heap.size+1,0,none⟩) (by simp only[];omega)).trans b0,(hV.cell (p:=⟨w.heap.size+1,3,none⟩) (by simp only[];omega)).trans s,
   (hV.cell (p:=⟨b,o,none⟩) H).trans d0,(hV.cell (p:=⟨b,o+1,none⟩) H).trans d1,(hV.cell (p:=⟨b,o+2,none⟩) H).trans d2,(hV.cell (p:=⟨b,o+3,none⟩) H).trans d3⟩
 have cT:=ae al;clear al a0 q b0 s d0 d1 d2 d3;go_region_held3 (λV=>V.cell? ⟨w.heap.size,0,none⟩=some (.slice G ng t)/\V.cell? ⟨w.heap.size,1,none⟩=some (.slice L nl cl)/\V.cell? ⟨w.heap.size+1,0,none⟩=some (.int .i64 op)/\V.cell? ⟨w.heap.size+1,3,none⟩=some (.slice (some ⟨b,o,none⟩) 1 c)/\
   V.cell? ⟨b,o,none⟩=some bl/\V.cell? ⟨b,o+1,none⟩=some Z/\V.cell? ⟨b,o+2,none⟩=some U/\V.cell? ⟨b,o+3,none⟩=some F)
  (first|exact cT.o _ (Below.refl _ _)|exact cT.o _ (Below.refl _ _).drew|exact cT.o _ bv)
  (first|(go_at_call 113;refine(b2.o _ G L ng nl t cl g l bl Z U F ?_).mono ?_;(exact ba.on (Below.refl _ _).drew);rintro r J ⟨rfl,d⟩;have bv:Below W.heap.size W J:=(Below.refl W.heap.size W).drew.trans d;clear d))
 have aA:=(f.trans (bv.mono f.size))
 have bd:=ae (show ev g l (.un op x)=if (ev g l x).2≠0 then (0,(ev g l x).2) else if op=3 then (wrap64 (-(ev g l x).1),0) else (eH ((ev g l x).1 == 0),0) from rfl);generalize ev g l x=r1 at *;obtain⟨v1,f1⟩:=r1;clear cT b2 ba;by_cases z:f1=0
 case neg=>
  have q1:(f1 != 0)=true:=by simpa using z
  have aT:=ae (show ev g l (.un op x)=(0,f1) by rw[bd.o];simp[z]);clear z;go_wp2
  go_ret2
  exact fx.mk' aT.o aA
 have q1:(f1 != 0)=false:=by simpa using z
 rcases cY.o with aD|bt
 .have aT:=ae (show ev g l (.un op x)=(wrap64 (-v1),0) by rw[bd.o];simp[z,aD]);subst aD;clear z;go_wp2
  go_ret2
  exact fx.mk' aT.o aA
 .have aT:=ae (show ev g l (.un op x)=(eH (v1 == 0),0) by rw[bd.o];simp[z,bt]);subst bt;clear z;go_wp2_with((go_at_call 154;refine(jz _ _).mono ?_;rintro e J ⟨rfl,rfl⟩))
  go_ret2
  exact fx.mk' aT.o aA
 ):p:=h
theorem zQ(h:p:=by
 obtain⟨b2,cY⟩:=aI a1 cf;clear h hx a1;have bX:(op == 1)=false:=by simp;omega
 have g2:(op == 18)=false:=by simp;omega
 have cv:(op == 19)=false:=by simp;omega
 clear cf;go_enter func141,ntmps141;go_wp2;have f:=kU (w:=w) (.cells #[.slice G ng t,.slice L nl cl] 197) (.cells #[.int .i64 op,.int .i64 n,.string nm,.slice (some ⟨b,o,none⟩) 1 c] 72);have a0:((w.alloc (.cells #[.slice G ng t,.slice L nl cl] 197)).alloc (.cells #[.int .i64 op,.int .i64 n,.string nm,.slice (some ⟨b,o,none⟩) 1 c] 72)).cell? ⟨w.heap.size,0,none⟩=some (.slice G ng t):=by simp[go_sem]
 have q:((w.alloc (.cells #[.slice G ng t,.slice L nl cl] 197)).alloc (.cells #[.int .i64 op,.int .i64 n,.string nm,.slice (some ⟨b,o,none⟩) 1 c] 72)).cell? ⟨w.heap.size,1,none⟩=some (.slice L nl cl):=by simp[go_sem]
 have b0:((w.alloc (.cells #[.slice G ng t,.slice L nl cl] 197)).alloc (.cells #[.int .i64 op,.int .i64 n,.string nm,.slice (some ⟨b,o,none⟩) 1 c] 72)).cell? ⟨w.heap.size+1,0,none⟩=some (.int .i64 op):=by simp[go_sem]
 have s:((w.alloc (.cells #[.slice G ng t,.slice L nl cl] 197)).alloc (.cells #[.int .i64 op,.int .i64 n,.string nm,.slice (some ⟨b,o,none⟩) 1 c] 72)).cell? ⟨w.heap.size+1,3,none⟩=some (.slice (some ⟨b,o,none⟩) 1 c):=by simp[go_sem]
 have bz:((w.alloc (.cells #[.slice G ng t,.slice L nl cl] 197)).alloc (.cells #[.int .i64 op,.int .i64 n,.string nm,.slice (some ⟨b,o,none⟩) 1 c] 72)).heap.size=w.heap.size+2:=by simp
 generalize (w.alloc (.cells #[.slice G ng t,.slice L nl cl] 197)).alloc (.cells #[.int .i64 op,.int .i64 n,.string nm,.slice (some ⟨b,o,none⟩) 1 c] 72)=W at *;have ba:=E.on f;exact Ah
 ):p:=h
end AF
open AF in
theorem xz(op:Int)(x:VE)(a1:iE x):jd (.un op x):=by
 intro w G L ng nl t cl g l c0 c1 c2 c3 h;exact zP
theorem pa(e:VE)(k:Int)(he:e=.loc k\/e=.hP k):jd e:=by
 intro w G L ng nl t cl g l c0 c1 c2 c3 h;have a:=kU (w:=w) (.cells #[.slice G ng t,.slice L nl cl] 197) (.cells #[c0,c1,c2,c3] 72);have aH:=h.gs.eQ a a.size;have bZ:=h.ls.eQ a a.size;clear a;have b2:=h.ok;rcases he with rfl|rfl
 all_goals
  obtain⟨nm,A,c,aB⟩:=h.rep;injection aB with h0 aB;injection aB with ac aB;injection aB with ap aB;injection aB with aD aB;subst h0 ac ap aD;clear h aB;obtain⟨F,bI⟩:=b2;go_enter func141,ntmps141;go_wp2_with(fail)
  first
  | refine(mK L nl cl l k _ bZ F bI).mono ?_
  | refine(mK G ng t g k _ aH F bI).mono ?_
  rintro e J ⟨rfl,rfl⟩;go_wp2
  go_ret2
  exact fx.mk' rfl (kU _ _)
namespace AG
theorem z0(h:p:=by
 obtain⟨HA,cY⟩:=aI bE bb;clear bd;have split:(op == 16)=true/\(v1 == 0)=false/\(op == 17)=false\/(op == 16)=false/\(op == 17)=true/\(v1 != 0)=false\/(op == 16)=false/\(op == 17)=false:=by
  exact FD
 clear bE bb;have bF:=ae split;clear split;rcases bF.o with⟨db,bt,dH⟩|⟨db,bt,dH⟩|⟨db,bt⟩
 all_goals
  go_wp2;go_region_held3 (λV=>V.cell? ⟨w.heap.size,0,none⟩=some (.slice G ng t)/\V.cell? ⟨w.heap.size,1,none⟩=some (.slice L nl cl)/\V.cell? ⟨w.heap.size+1,0,none⟩=some (.int .i64 op)/\V.cell? ⟨w.heap.size+1,3,none⟩=some (.slice (some ⟨b,o,none⟩) 2 c)/\V.cell? ⟨b,o,none⟩=some bl/\V.cell? ⟨b,o+1,none⟩=some Z/\V.cell? ⟨b,o+2,none⟩=some U/\V.cell? ⟨b,o+3,none⟩=some F/\V.cell? ⟨b,o+4,none⟩=some cD/\V.cell? ⟨b,o+5,none⟩=some b5/\V.cell? ⟨b,o+6,none⟩=some b3/\V.cell? ⟨b,o+7,none⟩=some bA)
   (first|exact cT.o _ (Below.refl _ _)|exact cT.o _ (Below.refl _ _).drew|exact cT.o _ aE|exact cT.o _ bv|exact cT.o _ bv.drew)
   (first|(go_at_call 113;refine(N.o _ G L ng nl t cl g l cD b5 b3 bA ?_).mono ?_;(exact(u.on bv).on (Below.refl _ _).drew);rintro r bV ⟨rfl,d⟩;have aE:Below W.heap.size W bV:=bv.drew.trans (d.mono bv.size);clear d))
  have aA:=(f.trans (aE.mono f.size))
  generalize ev g l y=c9 at *;obtain⟨v2,f2⟩:=c9;by_cases ax:f2=0
  case neg=>
   have c7:(f2 != 0)=true:=by simpa using ax
   have b4:=ae (show ev g l (.bin op x y)=(0,f2) by rw[a4.o];simp[ax]);clear ax;go_wp2
   go_ret2
   exact fx.mk' b4.o aA
  have c7:(f2 != 0)=false:=by simpa using ax
  have b4:=ae (show ev g l (.bin op x y)=if op=16\/op=17 then (eH (v2 != 0),0) else arith op v1 v2 by rw[a4.o];simp[ax]);clear ax a4
  first
  | (have I:=ae (show ev g l (.bin op x y)=(eH (v2 != 0),0) by rw[b4.o,if_pos (by first|exact .inl (by simpa using db)|exact .inr (by simpa using bt))]);go_wp2_with((go_at_call 154;refine(jz _ _).mono ?_;rintro e J ⟨rfl,rfl⟩));go_ret2;exact fx.mk' I.o aA)
  | (have aH:op≠16/\op≠17:=⟨by simpa using db,by simpa using bt⟩;have I:=ae (show ev g l (.bin op x y)=arith op v1 v2 by rw[b4.o,if_neg ad]);go_wp2_with(fail);refine(nV op v1 v2 ad _).mono ?_;rintro e cE ⟨rfl,aP⟩;go_wp2;go_ret2;exact fx.mk' (by rw[I.o]) (aA.trans (aP.mono aA.size)))
 ):p:=h
theorem zr(h:p:=by
 clear b2 ba;by_cases z:f1=0
 case neg=>
  have q1:(f1 != 0)=true:=by simpa using z
  have aT:=ae (show ev g l (.bin op x y)=(0,f1) by rw[bd.o];simp[z]);clear z;go_wp2
  go_ret2
  exact fx.mk' aT.o aA
 have q1:(f1 != 0)=false:=by simpa using z
 have K:=ae z;clear z;by_cases bE:op=16/\v1=0
 .obtain⟨rfl,rfl⟩:=bE;have aT:=ae (show ev g l (.bin 16 x y)=(0,0) by rw[bd.o];simp[K.o]);go_wp2
  go_ret2
  exact fx.mk' aT.o aA
 by_cases bb:op=17/\v1≠0
 .obtain⟨rfl,bD⟩:=bb;have cM:(v1 != 0)=true:=by simpa using bD
  have aT:=ae (show ev g l (.bin 17 x y)=(1,0) by rw[bd.o];simp[K.o,bD]);clear bD;go_wp2
  go_ret2
  exact fx.mk' aT.o aA
 exact zZ
 ):p:=h
theorem Ai(h:p:=by
 have d4:=(f.cell (p:=⟨b,o+4,none⟩) O).trans cn;have d5:=(f.cell (p:=⟨b,o+5,none⟩) O).trans ci;have d6:=(f.cell (p:=⟨b,o+6,none⟩) O).trans bL;have d7:=(f.cell (p:=⟨b,o+7,none⟩) O).trans e7;have i:=ae bz;clear E j e0 e1 e2 e3 cn ci bL e7 bz;have al:∀V:World,Below W.heap.size W V->V.cell? ⟨w.heap.size,0,none⟩=some (.slice G ng t)/\V.cell? ⟨w.heap.size,1,none⟩=some (.slice L nl cl)/\V.cell? ⟨w.heap.size+1,0,none⟩=some (.int .i64 op)/\V.cell? ⟨w.heap.size+1,3,none⟩=some (.slice (some ⟨b,o,none⟩) 2 c)/\V.cell? ⟨b,o,none⟩=some bl/\V.cell? ⟨b,o+1,none⟩=some Z/\V.cell? ⟨b,o+2,none⟩=some U/\V.cell? ⟨b,o+3,none⟩=some F/\V.cell? ⟨b,o+4,none⟩=some cD/\V.cell? ⟨b,o+5,none⟩=some b5/\V.cell? ⟨b,o+6,none⟩=some b3/\V.cell? ⟨b,o+7,none⟩=some bA:=λV hV=>by
  have bH:=i.o;have H:b<W.heap.size:=by have:=O;omega
  exact⟨(hV.cell (p:=⟨w.heap.size,0,none⟩) (by simp only[];omega)).trans a0,(hV.cell (p:=⟨w.heap.size,1,none⟩) (by simp only[];omega)).trans q,(hV.cell (p:=⟨w.heap.size+1,0,none⟩) (by simp only[];omega)).trans b0,(hV.cell (p:=⟨w.heap.size+1,3,none⟩) (by simp only[];omega)).trans s,(hV.cell (p:=⟨b,o,none⟩) H).trans d0,(hV.cell (p:=⟨b,o+1,none⟩) H).trans d1,(hV.cell (p:=⟨b,o+2,none⟩) H).trans d2,(hV.cell (p:=⟨b,o+3,none⟩) H).trans d3,(hV.cell (p:=⟨b,o+4,none⟩) H).trans d4,(hV.cell (p:=⟨b,o+5,none⟩) H).trans d5,(hV.cell (p:=⟨b,o+6,none⟩) H).trans d6,(hV.cell (p:=⟨b,o+7,none⟩) H).trans d7⟩
 have cT:=ae al;clear al a0 q b0 s d0 d1 d2 d3 d4 d5 d6 d7;go_region_held3 (λV=>V.cell? ⟨w.heap.size,0,none⟩=some (.slice G ng t)/\V.cell? ⟨w.heap.size,1,none⟩=some (.slice L nl cl)/\V.cell? ⟨w.heap.size+1,0,none⟩=some (.int .i64 op)/\V.cell? ⟨w.heap.size+1,3,none⟩=some (.slice (some ⟨b,o,none⟩) 2 c)/\V.cell? ⟨b,o,none⟩=some bl/\V.cell? ⟨b,o+1,none⟩=some Z/\V.cell? ⟨b,o+2,none⟩=some U/\V.cell? ⟨b,o+3,none⟩=some F/\V.cell? ⟨b,o+4,none⟩=some cD/\V.cell? ⟨b,o+5,none⟩=some b5/\V.cell? ⟨b,o+6,none⟩=some b3/\V.cell? ⟨b,o+7,none⟩=some bA)
  (first|exact cT.o _ (Below.refl _ _)|exact cT.o _ (Below.refl _ _).drew|exact cT.o _ bv|exact cT.o _ bv|exact cT.o _ bv.drew)
  (first|(go_at_call 113;refine(b2.o _ G L ng nl t cl g l bl Z U F ?_).mono ?_;(exact ba.on (Below.refl _ _).drew);rintro r aV ⟨rfl,d⟩;have bv:Below W.heap.size W aV:=(Below.refl W.heap.size W).drew.trans (d.mono (JI _));clear d))
 have aA:=(f.trans (bv.mono f.size))
 exact zq
 ):p:=h
theorem zm(h:p:=by
 obtain⟨b2,N⟩:=aI k m;clear h hx aa k m;go_enter func142,ntmps142;go_wp2;have f:=kU (w:=w) (.cells #[.slice G ng t,.slice L nl cl] 197) (.cells #[.int .i64 op,.int .i64 n,.string nm,.slice (some ⟨b,o,none⟩) 2 c] 72);have a0:((w.alloc (.cells #[.slice G ng t,.slice L nl cl] 197)).alloc (.cells #[.int .i64 op,.int .i64 n,.string nm,.slice (some ⟨b,o,none⟩) 2 c] 72)).cell? ⟨w.heap.size,0,none⟩=some (.slice G ng t):=by simp[go_sem]
 have q:((w.alloc (.cells #[.slice G ng t,.slice L nl cl] 197)).alloc (.cells #[.int .i64 op,.int .i64 n,.string nm,.slice (some ⟨b,o,none⟩) 2 c] 72)).cell? ⟨w.heap.size,1,none⟩=some (.slice L nl cl):=by simp[go_sem]
 have b0:((w.alloc (.cells #[.slice G ng t,.slice L nl cl] 197)).alloc (.cells #[.int .i64 op,.int .i64 n,.string nm,.slice (some ⟨b,o,none⟩) 2 c] 72)).cell? ⟨w.heap.size+1,0,none⟩=some (.int .i64 op):=by simp[go_sem]
 have s:((w.alloc (.cells #[.slice G ng t,.slice L nl cl] 197)).alloc (.cells #[.int .i64 op,.int .i64 n,.string nm,.slice (some ⟨b,o,none⟩) 2 c] 72)).cell? ⟨w.heap.size+1,3,none⟩=some (.slice (some ⟨b,o,none⟩) 2 c):=by simp[go_sem]
 have bz:((w.alloc (.cells #[.slice G ng t,.slice L nl cl] 197)).alloc (.cells #[.int .i64 op,.int .i64 n,.string nm,.slice (some ⟨b,o,none⟩) 2 c] 72)).heap.size=w.heap.size+2:=by simp
 generalize (w.alloc (.cells #[.slice G ng t,.slice L nl cl] 197)).alloc (.cells #[.int .i64 op,.int .i64 n,.string nm,.slice (some ⟨b,o,none⟩) 2 c] 72)=W at *;have ba:=E.on f;have u:=j.on f;exact Ah
 ):p:=h
end AG
open AG in
theorem tU(op:Int)(x y:VE)(k:iE x)(m:iE y):nH (.bin op x y):=by
 intro w G L ng nl t cl g l c0 c1 c2 c3 h;exact zl
theorem lG(e:VE)(S:jd e)(hl:∀w cs,e.at_ w cs->∃op n nm A k c,cs=[.int .i64 op,.int .i64 n,.string nm,.slice A k c]/\k<=1):iE e:=by
 intro w G L ng nl t cl g l c0 c1 c2 c3 h;obtain⟨op,n,nm,A,k,c,aB,aj⟩:=hl _ _ h.rep;injection aB with h0 aB;injection aB with ac aB;injection aB with ap aB;injection aB with aD aB;subst h0 ac ap aD;clear aB;have bF:=ae S;clear S hl;have q:((k:Int) == 2)=false:=by simp;omega
 have ao:(k == 2)=false:=by simp;omega
 clear aj;go_enter func113,ntmps113;go_wp2_with(fail);have f:=kU (w:=w) (.cells #[.slice G ng t,.slice L nl cl] 197) (.cells #[.int .i64 op,.int .i64 n,.string nm,.slice A k c] 72);have E:=h.on f;clear h;refine(bF.o _ G L ng nl t cl g l _ _ _ _ E).mono ?_;rintro r J ⟨rfl,O⟩;go_wp2
 go_ret2
 exact fx.mk' rfl (f.trans (O.mono f.size))
theorem CU(op:Int)(x y:VE)(S:nH (.bin op x y)):iE (.bin op x y):=by
 intro w G L ng nl t cl g l c0 c1 c2 c3 h;obtain⟨n,nm,b,o,c,bl,Z,U,F,cD,b5,b3,bA,aB,_⟩:=h.rep;injection aB with h0 aB;injection aB with ac aB;injection aB with ap aB;injection aB with aD aB;subst h0 ac ap aD;clear aB;have bF:=ae S;clear S;go_enter func113,ntmps113;go_wp2_with(fail);have f:=kU (w:=w) (.cells #[.slice G ng t,.slice L nl cl] 197) (.cells #[.int .i64 op,.int .i64 n,.string nm,.slice (some ⟨b,o,none⟩) 2 c] 72);have E:=h.on f;clear h;refine(bF.o _ G L ng nl t cl g l _ _ _ _ E).mono ?_;rintro r J ⟨rfl,O⟩;go_wp2
 go_ret2
 exact fx.mk' rfl (f.trans (O.mono f.size))
theorem ns:∀e:VE,iE e
 | .num n=>lG _ (va n) (λw cs h=>by obtain⟨nm,A,c,rfl⟩:=h;exact⟨_,_,_,_,_,_,rfl,ad⟩)
 | .eP s=>λw G L ng nl t cl g l c0 c1 c2 c3 h=>h.ok.elim
 | .loc k=>lG _ (pa _ k (.inl rfl)) (λw cs h=>by obtain⟨nm,A,c,rfl⟩:=h;exact⟨_,_,_,_,_,_,rfl,ad⟩)
 | .hP k=>lG _ (pa _ k (.inr rfl)) (λw cs h=>by obtain⟨nm,A,c,rfl⟩:=h;exact⟨_,_,_,_,_,_,rfl,ad⟩)
 | .un op x=>lG _ (xz op x (ns x)) (λw cs h=>by obtain⟨n,nm,b,o,c,bl,Z,U,F,rfl,_⟩:=h;exact⟨_,_,_,_,_,_,rfl,ad⟩)
 | .bin op x y=>CU op x y (tU op x y (ns x) (ns y))
theorem nI(e:VE)(w:World)(G L:Kj)(ng nl t cl:Nat)(g l:List Int)(c0 c1 c2 c3:Value)(h:kQ w G L ng nl g l e [c0,c1,c2,c3]) :
  Calls prog 69 #[.agg #[c0,c1,c2,c3],.slice G ng t,.slice L nl cl] w (fx w (ev g l e)):=by
 have bd:=ae (ns e);go_enter func69,ntmps69;go_wp2_with(fail);have f:=(Below.refl w.heap.size w).alloc (JI _) (.cells #[c0,c1,c2,c3] 72);have E:=h.on f;clear h;refine(bd.o _ G L ng nl t cl g l _ _ _ _ E).mono ?_;rintro r J ⟨rfl,O⟩;go_wp2
 go_ret2
 exact fx.mk' rfl (f.trans (O.mono f.size))
end
def G8(w:World)(x:VE)(e:Ending)(J:World):Prop:=∃c0 c1 c2 c3,e=.returned (.agg #[c0,c1,c2,c3])/\x.rep J (λb=>w.heap.size<=b/\b<J.heap.size) [c0,c1,c2,c3]/\Below w.heap.size w J
theorem G8.mk'{w:World}{y:VE}{c0 c1 c2 c3:Value}(hx:x=y)(h:y.rep J (λb=>w.heap.size<=b/\b<J.heap.size) [c0,c1,c2,c3])(O:Below w.heap.size w J):G8 w x (.returned (.agg #[c0,c1,c2,c3])) J:=by
 subst hx;exact⟨_,_,_,_,rfl,h,O⟩
def GM(n:Int):VE:=if 0<=n then .num n else .bin 9 (.un 3 (.num (wrap64 (-(wrap64 (n+1)))))) (.num 1)
theorem kQ.new{B:Nat}(h:x.rep J (λb=>B<=b/\b<J.heap.size) cs)(b2:x.ok 0 0):kQ J none none 0 0 [] [] x cs:=
 ⟨cB.c7 _,cB.c7 _,b2,VE.aA (λ_ h=>h.2) _ _ h⟩
theorem tb(x:Int):∃k,wrap64 x=x - 18446744073709551616*k:=⟨(x+9223372036854775808) / 18446744073709551616,by unfold wrap64;omega⟩
theorem px(z m:Int):wrap64 (z - 18446744073709551616*m)=wrap64 z:=by unfold wrap64;omega
theorem nj(x y:Int):wrap64 (wrap64 x*y)=wrap64 (x*y):=by
 obtain⟨k,aj⟩:=tb x;rw[aj,show (x - 18446744073709551616*k)*y=x*y - 18446744073709551616*(k*y) by rw[Int.sub_mul,Int.mul_assoc],px]
theorem mG(x y:Int):wrap64 (x - wrap64 y)=wrap64 (x - y):=by
 obtain⟨k,aj⟩:=tb y;rw[aj,show x - (y - 18446744073709551616*k)=x - y - 18446744073709551616*(-k) by omega,px]
def IU(l:List Int)(t:Int):Int:=if t<0 then -1 else l.getD t.toNat (-1)
def Ih(l:List Int):Nat->Int->Int
 | 0,t=>t
 | k+1,t=>if t<0 then t else Ih l k (IU l t)
section
variable {l:List Int}
def xM(l:List Int)(t:Int):Prop:=∀k,0<=Ih l k t
theorem xM.next{t:Int}(h:xM l t):xM l (IU l t):=λk=>by
 have h0:=h 0;have:=h (k+1);rw[Ih,if_neg (by exact Int.not_lt.2 h0)] at this;exact this
end
end Go.Proofs.YtnigabjngpnbiaaGreat
