/- Part 4 of the proof. No condition of its own. -/
import Derived.Test.YtbkhhfajcgkpgaaGreatQ03
namespace Go.Proofs.YtbkhhfajcgkpgaaGreat
open Go.RowKit Go.Proofs.Tryz
set_option maxRecDepth 1000000
set_option maxHeartbeats 25600000
set_option linter.unusedVariables false
variable{a:Act}{K:Act→World→Prop}{d:D}{m:List D}{br cs xs:List Value}{cY g s sz:Nat}{M:Nat→Prop}{o:Oper}{rest:PT}{G:Prop}{α β γ:Type}{J:World}
theorem b0.G5{w ac:World}{A:Kr}{n c:Nat}{l:List Int}(h:b0 w s A n c l)(O:Below g w ac)(hs:s<g):b0 ac s A n c l:=by
 have aw:=h.lt;refine⟨JR h.lt O.size,?_,?_,?_,h.ls.fS (O.mono ab),h.hn⟩
 ·exact(O.cell (p:=⟨s,0,none⟩) hs).trans h.c0
 ·obtain⟨i,al,hc⟩:=h.c1;exact⟨i,al,(O.cell (p:=⟨s,1,none⟩) hs).trans hc⟩
 ·exact(O.frozen (p:=⟨s,1,none⟩) hs).trans h.fz
theorem fI.eB{w aO v:World}(h:fI s w aO)(O:Below w.heap.size aO v):fI s w v:=
 ⟨O.os.trans h.os,O.tape.trans h.tape,O.output.trans h.output,J7 h.size O.size,fun k aj hn=>(O.block k aj).trans (h.block k aj hn)⟩
theorem fI.frozen{s:Nat}{a b:World}(h:fI s a b){k j:Nat}(aj:k<a.heap.size)(hn:k≠s):b.frozen? ⟨k,j,none⟩=a.frozen? ⟨k,j,none⟩:=by
 simp only[World.frozen?,h.block k aj hn]
structure rL(w:World)(s b:Nat):Prop where
 lt:b<w.heap.size
 ne:b≠s
 cs:∃G s1 s2,w.cell? ⟨b,0,none⟩=some (.string G)∧w.cell? ⟨b,1,none⟩=some (.string s1)∧w.cell? ⟨b,2,none⟩=some (.string s2)
theorem rL.on{w ac:World}{b:Nat}(h:rL w s b)(he:fI s w ac):rL ac s b:=by
 obtain⟨hl,hn,G,s1,s2,h0,ae,aC⟩:=h;exact⟨JR hl he.size,hn,G,s1,s2,(he.cell hl hn).trans h0,(he.cell hl hn).trans ae,(he.cell hl hn).trans aC⟩
def VE.made:VE→Prop
 | .num n=>0≤n∧n<4611686018427387904
 | .gy _=>True
 | .loc _=>False
 | .ia _=>False
 | .un op x=>(op=3∨op=4)∧x.made
 | .bin op x y=>(5≤op∧op≤17)∧x.made∧y.made
theorem pO(w:World)(s:Nat)(A:Kr)(n c:Nat)(l:List Int)(h:b0 w s A n c l) :
  Calls prog 153 #[.pointer (some ⟨s,0,none⟩)] w (wC w s A n c l 4611686018427387904):=by
 have H:=ad h;clear h;go_enter func153,ntmps153;go_wp2_with(fail);refine(aW _ s A n c l 8 H.o ab ab).mono ?_;rintro e aN ⟨k,rfl,I,cd,ae,ar⟩;have H1:=ai ae ar;clear ae ar;by_cases aj:k=1
 ·have q:(k == 1)=true:=by simpa using aj
  go_wp2_with(fail);refine(aW _ s A n c l 4611686018427387904 H1.1 ab ab).mono ?_;rintro e aO ⟨bE,rfl,cn,ep,aC,bI⟩;have aE:=ai aC bI;clear aC bI;go_wp2;go_ret;exact⟨bE,rfl,cn,ep,aE.1,H1.2.trans aE.2⟩
 ·have q:(k == 1)=false:=by simpa using aj
  go_wp2_with(fail);refine(aW _ s A n c l 4 H1.1 ab ab).mono ?_;rintro e aO ⟨bE,rfl,cn,ep,aC,bI⟩;have aE:=ai aC bI;clear aC bI;go_wp2;go_ret;exact⟨bE,rfl,cn,ab,aE.1,H1.2.trans aE.2⟩
section
attribute [local go_sem ↓] fW fX
def Hu(X:List bA)(T:List db)(m th:Int)(i:Nat):Int:=if (own X)[i]?=some m∧(jo T i).owner=th+1∧0≤th then (jo T i).depth else 0
def FN(X:List bA)(T:List db)(m th:Int):Nat→Int
 | 0=>0
 | k+1=>FN X T m th k+Hu X T m th k
def depth(X:List bA)(T:List db)(m th:Int):Int:=FN X T m th (own X).length
end
structure eF where
 name:ByteArray
 idx:Option VE
inductive da where
 | mx (r:eF)
 | ex (e:VE)
inductive al where
 | nil
 | set (isVar:Bool) (n:ByteArray) (e:VE) (rest:al)
 | call (a:Bool) (n:ByteArray) (args:List da) (rest:al)
 | lock (un:Bool) (r:eF) (rest:al)
 | ite (e:VE) (th el rest:al)
 | gb (e:VE) (th rest:al)
 | ret (rest:al)
structure az where
 name:ByteArray
 params:List (ByteArray×Bool)
 body:al
structure bB where
 globals:List (ByteArray×Int)
 ae:List bA
 funcs:List az
structure bC where
 param:Bool
 index:Int
 at_:Option VE
structure ay where
 op:Int
 target:Int
 c8:Bool
 expr:Option VE
 place:bC
 ints:List VE
 places:List bC
structure c6 where
 name:ByteArray
 ints:Int
 aw:Int
 locals:Int
 code:List ay
structure av where
 globals:List Int
 ae:List bA
 procs:List c6
 main:Int
structure an where
 proc:Int
 pc:Int
 ints:List Int
 aw:List Int
structure ah where
 globals:List Int
 table:List db
 threads:List (List an)
 fault:Int
def bb:VE→D
 | .num n=>.st [.i 1,.i n,.s ⟨#[]⟩,.sl []]
 | .gy s=>.st [.i 2,.i 0,.s s,.sl []]
 | .loc k=>.st [.i 18,.i k,.s ⟨#[]⟩,.sl []]
 | .ia k=>.st [.i 19,.i k,.s ⟨#[]⟩,.sl []]
 | .un op x=>.st [.i op,.i 0,.s ⟨#[]⟩,.sl [bb x]]
 | .bin op x y=>.st [.i op,.i 0,.s ⟨#[]⟩,.sl [bb x,bb y]]
def jA:D:=.st [.i 0,.i 0,.s ⟨#[]⟩,.sl []]
def nZ:Option VE→D
 | none=>jA
 | some x=>bb x
def VE.aU:VE→Int
 | .num _=>1
 | .gy _=>2
 | .loc _=>18
 | .ia _=>19
 | .un op _=>op
 | .bin op _ _=>op
def VE.numOf:VE→Int
 | .num n=>n
 | .loc k=>k
 | .ia k=>k
 | _=>0
def VE.a1:VE→ByteArray
 | .gy s=>s
 | _=>⟨#[]⟩
def VE.args:VE→List VE
 | .un _ x=>[x]
 | .bin _ x y=>[x,y]
 | _=>[]
theorem w5(x:VE):bb x=.st [.i x.aU,.i x.numOf,.s x.a1,.sl (x.args.map bb)]:=by
 cases x<;>simp[bb,VE.aU,VE.numOf,VE.a1,VE.args]
theorem cZ(x:VE):(bb x).sz=4:=by rw[w5];rfl
section
variable {w:World} {P:Nat→Prop}
theorem aJ:D.aI w P [] cs↔cs=[]:=by simp only[D.aI]
theorem aZ{n:Int}{l:List D}:D.aI w P (.i n::l) cs↔∃y,cs=.int .i64 n::y∧D.aI w P l y:=by
 exact Cc
theorem eX{n:Bool}{l:List D}:D.aI w P (.b n::l) cs↔∃y,cs=.bool n::y∧D.aI w P l y:=by
 exact Cc
theorem b9{n:ByteArray}{l:List D}:D.aI w P (.s n::l) cs↔∃y,cs=.string n::y∧D.aI w P l y:=by
 exact Cc
theorem aD{l:List D}:D.aI w P (.sl m::l) cs↔∃A n c y,cs=.slice A n c::y∧n≤c∧Sl w P A n m∧D.aI w P l y:=by
 constructor
 ·intro h;simp only[D.aI] at h;obtain⟨x,y,rfl,hx,h⟩:=h;obtain⟨A,c,n,rfl,hc,hs⟩:=D.sM.1 hx;exact⟨A,n,c,y,rfl,hc,hs,h⟩
 ·rintro⟨A,n,c,y,rfl,hc,hs,h⟩;simp only[D.aI];exact⟨_,y,rfl,D.sM.2 ⟨A,c,n,rfl,hc,hs⟩,h⟩
theorem bu:(D.st m).rep w P cs↔D.aI w P m cs:=by simp only[D.rep]
theorem aV{x:VE}:(bb x).rep w P cs↔∃A n c,cs=[.int .i64 x.aU,.int .i64 x.numOf,.string x.a1,.slice A n c]∧n≤c∧Sl w P A n (x.args.map bb):=by
 rw[w5,bu,aZ];constructor
 ·rintro⟨y,rfl,h⟩;obtain⟨cr,rfl,ae⟩:=aZ.1 h;obtain⟨bm,rfl,aC⟩:=b9.1 ae;obtain⟨A,n,c,aa,rfl,hc,hs,aT⟩:=aD.1 aC;exact wQ
 ·rintro⟨A,n,c,rfl,hc,hs⟩;exact⟨_,rfl,aZ.2 ⟨_,rfl,b9.2 ⟨_,rfl,aD.2 ⟨A,n,c,[],rfl,hc,hs,aJ.2 rfl⟩⟩⟩⟩
theorem eT:jA.rep w P cs↔∃A c,cs=[.int .i64 0,.int .i64 0,.string ⟨#[]⟩,.slice A 0 c]:=by
 unfold jA;rw[bu,aZ];constructor
 ·rintro⟨y,rfl,h⟩;obtain⟨cr,rfl,ae⟩:=aZ.1 h;obtain⟨bm,rfl,aC⟩:=b9.1 ae;obtain⟨A,n,c,aa,rfl,hc,hs,aT⟩:=aD.1 aC;rw[aJ] at aT;subst aT;obtain rfl:n=0:=hs.1.symm;exact⟨A,c,rfl⟩
 ·rintro⟨A,c,rfl⟩;exact⟨_,rfl,aZ.2 ⟨_,rfl,b9.2 ⟨_,rfl,aD.2 ⟨A,0,c,[],rfl,Kc _,Sl.bG A,aJ.2 rfl⟩⟩⟩⟩
theorem Sl.C2{A:Kr}(h:Sl w P A 1 [d])(bi:d.sz=4):∃b o br Z ax E,A=some ⟨b,o,none⟩∧P b∧d.rep w P [br,Z,ax,E]∧
  w.cell? ⟨b,o,none⟩=some br∧w.cell? ⟨b,o+1,none⟩=some Z∧w.cell? ⟨b,o+2,none⟩=some ax∧w.cell? ⟨b,o+3,none⟩=some E:=by
 obtain⟨b,o,a,cs,bk,O,hd,aU,hl,hc⟩:=h.at_ (z:=4) (k:=0) (fun e he=>by simp at he;subst he;exact bi) ab;simp at hd;subst hd
 match cs,hl with
 | [br,Z,ax,E],_=>
  have h0:=hc 0 br rfl;have ae:=hc 1 Z rfl;have aC:=hc 2 ax rfl;have aT:=hc 3 E rfl;simp only[Nat.zero_mul,J0] at h0 ae aC aT;exact⟨b,o,br,Z,ax,E,bk,O,aU,h0,ae,aC,aT⟩
theorem Sl.II{A:Kr}{e:D}(h:Sl w P A 2 [d,e])(bi:d.sz=4)(bl:e.sz=4):∃b o br Z ax E cj cr bm aa,A=some ⟨b,o,none⟩∧P b∧d.rep w P [br,Z,ax,E]∧e.rep w P [cj,cr,bm,aa]∧
  w.cell? ⟨b,o,none⟩=some br∧w.cell? ⟨b,o+1,none⟩=some Z∧w.cell? ⟨b,o+2,none⟩=some ax∧w.cell? ⟨b,o+3,none⟩=some E∧
  w.cell? ⟨b,o+4,none⟩=some cj∧w.cell? ⟨b,o+5,none⟩=some cr∧w.cell? ⟨b,o+6,none⟩=some bm∧w.cell? ⟨b,o+7,none⟩=some aa:=by
 have s:∀x∈[d,e],x.sz=4:=fun x hx=>by
  simp at hx;rcases hx with rfl|rfl<;>assumption
 obtain⟨b,o,a,cs,bk,O,hd,aU,hl,hc⟩:=h.at_ (z:=4) (k:=0) s ab;obtain⟨R,aA,l,f,ay,_,he,al,aL,G⟩:=h.at_ (z:=4) (k:=1) s ab;rw[bk] at ay;injection ay with ay;injection ay with aW cP;subst aW cP;simp at hd he;subst hd he
 match cs,hl,f,aL with
 | [br,Z,ax,E],_,[cj,cr,bm,aa],_=>
  have h0:=hc 0 br rfl;have ae:=hc 1 Z rfl;have aC:=hc 2 ax rfl;have aT:=hc 3 E rfl;have cz:=G 0 cj rfl;have b5:=G 1 cr rfl;have bE:=G 2 bm rfl;have cx:=G 3 aa rfl;simp only[Nat.zero_mul,J0,Nat.one_mul,Nat.add_assoc,Nat.reduceAdd] at h0 ae aC aT cz b5 bE cx;exact⟨b,o,br,Z,ax,E,cj,cr,bm,aa,bk,O,aU,al,h0,ae,aC,aT,cz,b5,bE,cx⟩
theorem ki:∀(x:VE) (cs:List Value),(bb x).rep w P cs→x.rep w P cs
 | .num n,cs,h=>by
  obtain⟨A,n,c,rfl,_,hs⟩:=aV.1 h;obtain rfl:n=0:=hs.1.symm
  exact⟨_,_,_,rfl⟩
 | .gy s,cs,h=>by
  obtain⟨A,n,c,rfl,_,hs⟩:=aV.1 h;obtain rfl:n=0:=hs.1.symm
  exact⟨_,_,_,rfl⟩
 | .loc k,cs,h=>by
  obtain⟨A,n,c,rfl,_,hs⟩:=aV.1 h;obtain rfl:n=0:=hs.1.symm
  exact⟨_,_,_,rfl⟩
 | .ia k,cs,h=>by
  obtain⟨A,n,c,rfl,_,hs⟩:=aV.1 h;obtain rfl:n=0:=hs.1.symm
  exact⟨_,_,_,rfl⟩
 | .un op x,cs,h=>by
  obtain⟨A,n,c,rfl,_,hs⟩:=aV.1 h;obtain rfl:n=1:=hs.1.symm;obtain⟨b,o,br,Z,ax,E,rfl,O,aU,c0,c1,c2,c3⟩:=Sl.C2 hs (cZ x)
  exact⟨_,_,b,o,c,br,Z,ax,E,rfl,O,ki x _ aU,c0,c1,c2,c3⟩
 | .bin op x y,cs,h=>by
  obtain⟨A,n,c,rfl,_,hs⟩:=aV.1 h;obtain rfl:n=2:=hs.1.symm;obtain⟨b,o,br,Z,ax,E,cj,cr,bm,aa,rfl,O,aU,al,c0,c1,c2,c3,d0,d1,d2,d3⟩:=Sl.II hs (cZ x) (cZ y);exact⟨_,_,b,o,c,br,Z,ax,E,cj,cr,bm,aa,rfl,O,ki x _ aU,ki y _ al,c0,c1,c2,c3,d0,d1,d2,d3⟩
end
def km(r:eF):D:=.st [.s r.name,.sl (r.idx.toList.map bb)]
def fE:D:=.st [.s ⟨#[]⟩,.sl []]
def gu:da→D
 | .mx r=>.st [.b true,km r,jA]
 | .ex e=>.st [.b false,fE,bb e]
def gp(kind:Int)(name:ByteArray)(e r:D)(args th el:List D):D:=.st [.i kind,.s name,e,r,.sl args,.sl th,.sl el]
def cP:al→List D
 | .nil=>[]
 | .set v n e rest=>gp (if v then 1 else 2) n (bb e) fE [] [] []::cP rest
 | .call g n aS rest=>gp (if g then 4 else 3) n jA fE (aS.map gu) [] []::cP rest
 | .lock u r rest=>gp (if u then 6 else 5) ⟨#[]⟩ jA (km r) [] [] []::cP rest
 | .ite e th el rest=>gp 7 ⟨#[]⟩ (bb e) fE [] (cP th) (cP el)::cP rest
 | .gb e th rest=>gp 8 ⟨#[]⟩ (bb e) fE [] (cP th) []::cP rest
 | .ret rest=>gp 9 ⟨#[]⟩ jA fE [] [] []::cP rest
def df(p:ByteArray×Bool):D:=.st [.s p.1,.b p.2]
def dd(f:az):D:=.st [.s f.name,.sl (f.params.map df),.sl (cP f.body)]
def h8(g:ByteArray×Int):D:=.st [.s g.1,.i g.2]
def dZ(m:bA):D:=.st [.s m.name,.b m.re,.i m.size]
def de(p:bC):D:=.st [.b p.param,.i p.index,.sl (p.at_.toList.map bb)]
def dP(x:ay):D:=.st [.i x.op,.i x.target,.b x.c8,nZ x.expr,de x.place,.sl (x.ints.map bb),.sl (x.places.map de)]
def fN(p:c6):D:=.st [.s p.name,.i p.ints,.i p.aw,.i p.locals,.sl (p.code.map dP)]
def ts(u:av):D:=.st [.sl (u.globals.map D.i),.sl (u.ae.map dZ),.sl (u.procs.map fN),.i u.main]
def hh(f:an):D:=.st [.i f.proc,.i f.pc,.sl (f.ints.map D.i),.sl (f.aw.map D.i)]
def mg(t:List an):D:=.st [.sl (t.map hh)]
def me(h:db):D:=.st [.i h.owner,.i h.depth]
theorem Sl.HY{enc:α→D}{f:α→List Value}(aD:∀(w:World) (P:Nat→Prop) (x:α) (cs:List Value),(enc x).rep w P cs→cs=f x)(bi:∀x,(enc x).sz=sz)
  {w:World} {A:Kr} {n:Nat} {l:List α} (h:Sl w (au w) A n (l.map enc)):cC (EF f) sz w w.heap.size A n l:=by
 have hl:l.length=n:=by rw[←h.1,JU]
 refine⟨hl,fun hn=>?_⟩;obtain⟨b,o,bk,O⟩:=h.some_ hn;refine⟨b,o,bk,O,fun k x hx=>?_⟩;have aj:k<n:=by have:=(List.getElem?_eq_some_iff.1 hx).1;omega
 obtain⟨R,aA,y,cs,ay,_,a4,aU,aJ,hc⟩:=h.gN bi aj;rw[bk] at ay;injection ay with ay;injection ay with ae aC;subst ae aC;rw[hx] at a4;injection a4 with a4;subst a4;exact⟨cs,aD _ _ _ _ aU,aJ,hc⟩
theorem mC{α:Type}{enc:α→D}{f:α→List Value}{w:World}{P:Nat→Prop}(aD:∀x,(enc x).rep w P (f x)):∀l:List α,D.aI w P (l.map enc) (l.flatMap f)
 | []=>by simp only[Kd,D.aI,List.flatMap_nil]
 | x::l=>by
  rw[JW,Ka];simp only[D.aI];exact⟨_,_,rfl,aD x,mC aD l⟩
theorem cC.sl{enc:α→D}{f:α→List Value}{w:World}{P:Nat→Prop}{B n:Nat}{A:Kr}{l:List α}(aD:∀x,(enc x).rep w P (f x))(hs:∀x,(f x).length=sz)(h0:0<sz)
  (h:cC (EF f) sz w B A n l) (aY:∀b,b<B→P b):Sl w P A n (l.map enc):=by
 refine⟨by rw[JU,h.1],fun hn=>?_⟩;obtain⟨b,o,bk,O,hc⟩:=h.2 hn;refine⟨b,o,l.flatMap f,bk,aY b O,mC aD l,fun j u bc=>?_⟩;have aT:=(List.getElem?_eq_some_iff.1 bc).1;rw[fR f sz l fun x _=>hs x] at aT;have J:j / sz<l.length:=by rw[Nat.div_lt_iff_lt_mul h0];exact aT
 have hx:l[j / sz]?=some (l[j / sz]'J):=List.getElem?_eq_getElem J;have d:=Nat.mod_lt j h0;have a:j / sz*sz+j % sz=j:=Nat.div_add_mod' j sz;have ch:=fp f sz l (fun x _=>hs x) _ _ hx (j % sz) d;rw[a,bc] at ch;obtain⟨cs,he,_,c⟩:=hc _ _ hx;rw[EF] at he;subst he;have:=c _ _ ch.symm
 rwa [Nat.add_assoc,a] at this
theorem xm{w:World}{P:Nat→Prop}{x:Int}:(D.i x).rep w P cs↔cs=b2 x:=by simp only[D.rep,b2]
theorem Sl.ints{w:World}{A:Kr}{n:Nat}{l:List Int}(h:Sl w (au w) A n (l.map D.i)):cC (EF b2) 1 w w.heap.size A n l:=Sl.HY (enc:=D.i) (f:=b2) (fun _ _ _ _=>xm.1) (fun _=>rfl) h
theorem cC.ints{w:World}{P:Nat→Prop}{B n:Nat}{A:Kr}{l:List Int}(h:cC (EF b2) 1 w B A n l)(aY:∀b,b<B→P b):Sl w P A n (l.map D.i):=cC.sl (enc:=D.i) (f:=b2) (fun _=>xm.2 rfl) (fun _=>rfl) (by decide) h aY
theorem eR{w:World}{P:Nat→Prop}{m:bA}:(dZ m).rep w P cs↔cs=hg m:=by
 unfold dZ;rw[bu,b9];constructor
 ·rintro⟨y,rfl,h⟩;rw[eX] at h;exact yV
 ·rintro rfl;exact⟨_,rfl,eX.2 ⟨_,rfl,aZ.2 ⟨_,rfl,aJ.2 rfl⟩⟩⟩
theorem tV{w:World}{P:Nat→Prop}{m:db}:(me m).rep w P cs↔cs=cz m:=by
 unfold me;rw[bu,aZ];exact Ca
theorem Sl.qG{w:World}{A:Kr}{n:Nat}{l:List bA}(h:Sl w (au w) A n (l.map dZ)):cC (EF hg) 3 w w.heap.size A n l:=Sl.HY (enc:=dZ) (f:=hg) (fun _ _ _ _=>eR.1) (fun _=>rfl) h
theorem cC.qG{w:World}{P:Nat→Prop}{B n:Nat}{A:Kr}{l:List bA}(h:cC (EF hg) 3 w B A n l)(aY:∀b,b<B→P b):Sl w P A n (l.map dZ):=cC.sl (enc:=dZ) (f:=hg) (fun _=>eR.2 rfl) (fun _=>rfl) (by decide) h aY
theorem Sl.holds{w:World}{A:Kr}{n:Nat}{l:List db}(h:Sl w (au w) A n (l.map me)):cC (EF cz) 2 w w.heap.size A n l:=Sl.HY (enc:=me) (f:=cz) (fun _ _ _ _=>tV.1) (fun _=>rfl) h
theorem cC.holds{w:World}{P:Nat→Prop}{B n:Nat}{A:Kr}{l:List db}(h:cC (EF cz) 2 w B A n l)(aY:∀b,b<B→P b):Sl w P A n (l.map me):=cC.sl (enc:=me) (f:=cz) (fun _=>tV.2 rfl) (fun _=>rfl) (by decide) h aY
abbrev lg(P:Nat→Prop)(w:World)(v:Value):Nat→Prop:=fun b=>P b∧b<w.heap.size∧v.ownBlock≠some b
structure Gr(P:Nat→Prop)(B:Nat)(e:TypeId)(z:Nat)(w:World)(A:Kr)(n c:Nat)(l:List D):Prop where
 len:l.length=n
 ex:∃xs,w.ownsRow B e z (.slice A n c) n xs∧D.aI w (lg P w (.slice A n c)) l xs
section
variable {P Q:Nat→Prop} {B q:Nat} {e:TypeId} {z:Nat} {w ac aN:World} {A:Kr} {n c:Nat} {l:List D}
theorem Gr.nil(P:Nat→Prop)(B:Nat)(e:TypeId)(z:Nat)(w:World):Gr P B e z w none 0 0 []:=⟨rfl,[],⟨by simp,.inl ⟨rfl,rfl⟩⟩,by simp only[D.aI]⟩
theorem Gr.lt(h:Gr P B e z w A n c l){g:Nat}(aJ:(Value.slice A n c).ownBlock=some g):B≤g∧g<w.heap.size:=by
 obtain⟨_,xs,ae,_⟩:=h;exact ae.lt g aJ
theorem Gr.cap(h:Gr P B e z w A n c l):n≤c∧c≤maxLen:=by
 obtain⟨_,xs,ae,_⟩:=h;obtain⟨_,_,bD,aC,aT,_⟩:=bs ae;injection bD with _ _ bD;subst bD;exact⟨aC,aT⟩
theorem Gr.aj(h:Gr P B e z w A n c l)(hs:w.heap.size≤ac.heap.size)(aj:∀b,b<w.heap.size→(P b∨B≤b)→ac.heap[b]?=w.heap[b]?):Gr P B e z ac A n c l:=by
 obtain⟨hl,xs,ae,aC⟩:=h;refine⟨hl,xs,⟨ae.1,?_⟩,D.bK (fun b O=>⟨O.1,JR O.2.1 hs,O.2.2⟩) _ _ (D.bJ (fun b O=>aj b O.2.1 (.inl O.1)) _ _ aC)⟩;rcases ae.2 with aT|⟨g,cap,cur,bD,j,aS,rest⟩
 ·exact .inl aT
 ·exact .inr ⟨g,cap,cur,bD,j,(aj g (Array.getElem?_eq_some_iff.1 aS).1 (.inr j)).trans aS,rest⟩
theorem Gr.c7(h:Gr P B e z w A n c l)(hs:w.heap.size≤ac.heap.size)(aj:∀b,b<w.heap.size→(P b∨(Value.slice A n c).ownBlock=some b)→ac.heap[b]?=w.heap[b]?):Gr P B e z ac A n c l:=by
 obtain⟨hl,xs,ae,aC⟩:=h;refine⟨hl,xs,⟨ae.1,?_⟩,D.bK (fun b O=>⟨O.1,JR O.2.1 hs,O.2.2⟩) _ _ (D.bJ (fun b O=>aj b O.2.1 (.inl O.1)) _ _ aC)⟩;rcases ae.2 with aT|⟨g,cap,cur,bD,j,aS,rest⟩
 ·exact .inl aT
 ·exact .inr ⟨g,cap,cur,bD,j,(aj g (Array.getElem?_eq_some_iff.1 aS).1 (.inr (by rw[bD];rfl))).trans aS,rest⟩
theorem Gr.base{q:Nat}(h:Gr P B e z w A n c l)(aL:q≤B):Gr P q e z w A n c l:=by
 obtain⟨hl,xs,ae,aC⟩:=h;refine⟨hl,xs,⟨ae.1,?_⟩,aC⟩;rcases ae.2 with aT|⟨g,cap,cur,bD,j,aS,rest⟩
 ·exact .inl aT
 ·exact .inr ⟨g,cap,cur,bD,ab,aS,rest⟩
theorem Gr.mono(h:Gr P B e z w A n c l)(aY:∀b,b<w.heap.size→P b→Q b):Gr Q B e z w A n c l:=by
 obtain⟨hl,xs,ae,aC⟩:=h;exact⟨hl,xs,ae,D.bK (fun b O=>⟨aY b O.2.1 O.1,O.2.1,O.2.2⟩) _ _ aC⟩
theorem Gr.ak(h:Gr P B e z w A n c l)(O:Ext w ac):Gr P B e z ac A n c l:=h.aj O.size fun b aw _=>O.block b aw fun h=>h
theorem Gr.cO(h:Gr P B e z w A n c l)(O:Fr M w ac)(hM:∀b,M b→b<w.heap.size→¬P b∧b<B):Gr P B e z ac A n c l:=
 h.aj O.size fun b aw hp=>O.block b aw fun hm=>by
  obtain⟨ae,aC⟩:=hM b hm aw;rcases hp with hp|hp
  ·exact ae hp
  ·omega
theorem Gr.sl(h:Gr P B e z w A n c l)(aY:∀b,b<w.heap.size→P b→Q b)(aL:∀b,b<w.heap.size→B≤b→Q b):Sl w Q A n l:=by
 obtain⟨hl,xs,ae,aC⟩:=h;exact Sl.pP ae (D.bK (fun b O=>aY b O.2.1 O.1) _ _ aC) hl fun g _ ae aC=>aL g aC ae
end
abbrev dc(J:World)(A:Kr)(n c:Nat)(I:Kr)(aZ az:Nat):Prop:=∀b,(Value.slice I aZ az).ownBlock=some b→(Value.slice A n c).ownBlock=some b∨J.heap.size≤b
section
variable {P:Program} {f:Nat→Prop} {B:Nat} {e t:TypeId} {z:Value} {size bytes:Nat}
theorem Gr.snoc{w ac:World}{A I:Kr}{n c az:Nat}{l:List D}(hl:l.length=n)(ae:w.ownsRow B e cY (.slice A n c) n xs)(aC:D.aI w (lg f w (.slice A n c)) l xs)
  (hd:d.rep w (lg f w (.slice A n c)) br) {s:Nat} (hs:w.heap.size≤s) (S:ac.ownsRow B e cY (.slice I (n+1) az) (n+1) (xs++br)) (aJ:w.grownBy ac (Value.slice A n c).ownBlock)
  (O:(Value.slice I (n+1) az).ownBlock=(Value.slice A n c).ownBlock∨(Value.slice I (n+1) az).ownBlock=some s):Gr f B e cY ac I (n+1) az (l++[d]):=by
 refine⟨by simp[hl],_,S,D.cA ?_ (D.bj.2 ?_)⟩
 ·refine D.bK (fun b aW=>⟨aW.1,JR aW.2.1 aJ.size,fun hc=>?_⟩) _ _ (D.bJ (fun b aW=>aJ.block b aW.2.1 fun he=>aW.2.2 he.symm) _ _ aC);exact wL
 ·refine D.aF (fun b aW=>⟨aW.1,JR aW.2.1 aJ.size,fun hc=>?_⟩) _ _ (D.aN (fun b aW=>aJ.block b aW.2.1 fun he=>aW.2.2 he.symm) _ _ hd);exact wL
namespace AS
theorem Ah{p:Prop}(h:p:=by
 exact h I az ac (Gr.snoc hl ae aC hd (s:=J.heap.size+1) ab bE aJ (by simpa using H)) (Kn.grown aJ fun g aJ=>.inl aJ) (fun b O=>by
  rcases H with H|H
  ·rw[H] at O;exact .inl O
  ·rw[H] at O;injection O with O;right;simp at O;omega) hc
 ):p:=h
end AS
open AS in
theorem qn{Q:Exit→Act→World→Prop}(bk:bX P t e z size bytes)(s x:Operand)
  (a8:o.op=.call {callee:=.builtin .append,args:=#[s,x],argTypes:=#[t,t]})
  {A:Kr} {n c:Nat} {l:List D} (h0:Gr f B e size J A n c l) {d:D} {cs:Array Value} (hd:d.rep J (lg f J (.slice A n c)) cs.toList)
  (hs:a.eval s=.slice A n c) (hx:a.eval x=.slice (some ⟨J.heap.size,0,none⟩) 1 1) (T:cs.size=size)
  (y:(n+1)*bytes≤140737488355328) (C:n+1≤140737488355328) (r:B≤J.heap.size)
  (h:∀I az ac,Gr f B e size ac I (n+1) az (l++[d])→Fr (fun b=>(Value.slice A n c).ownBlock=some b) J ac→dc J A n c I (n+1) az→n+1≤az→K (a.put o.dst (.slice I (n+1) az)) ac):o.wp P a (J.alloc (.cells cs e)) K Q:=by
 obtain⟨hl,xs,ae,aC⟩:=h0;refine jZ _ bk s x a8 B _ n xs hs (ae.alloc _) _ 1 1 cs.toList hx (Src.block (heap_alloc_new J _) 1 ab (D.sI _ _ hd)) y C (by simp;omega) (fun h=>nomatch h) fun G ac bE cx H=>?_;exact Ag
theorem bR{ops:Array Oper}{rest:List Oper}{Q:Exit→Act→World→Prop}(bk:bX P t e z size bytes)(i:o.guard=none)(s x:Operand)
  (a8:o.op=.call {callee:=.builtin .append,args:=#[s,x],argTypes:=#[t,t]})
  {A:Kr} {n c:Nat} {l:List D} (h0:Gr f B e size J A n c l) {d:D} {cs:Array Value} (hd:d.rep J (lg f J (.slice A n c)) cs.toList)
  (hs:a.eval s=.slice A n c) (hx:a.eval x=.slice (some ⟨J.heap.size,0,none⟩) 1 1) (T:cs.size=size)
  (y:(n+1)*bytes≤140737488355328) (C:n+1≤140737488355328) (r:B≤J.heap.size)
  (h:∀I az ac,Gr f B e size ac I (n+1) az (l++[d])→Fr (fun b=>(Value.slice A n c).ownBlock=some b) J ac→dc J A n c I (n+1) az→n+1≤az→wpList P ops Q rest (a.put o.dst (.slice I (n+1) az)) ac):wpList P ops Q (o::rest) a (J.alloc (.cells cs e)):=
 wpList_plain i fun _ hK=>qn bk s x a8 h0 hd hs hx T y C r fun I az ac b7 g2 ca cJ=>hK _ _ (h I az ac b7 g2 ca cJ)
theorem Gr.FY{w ac:World}{A I:Kr}{n m c az:Nat}{l k:List D}(hl:l.length=n)(hm:k.length=m)(ae:w.ownsRow B e cY (.slice A n c) n xs)(aC:D.aI w (lg f w (.slice A n c)) l xs)
  (hd:D.aI w (lg f w (.slice A n c)) k br) {s:Nat} (hs:w.heap.size≤s) (S:ac.ownsRow B e cY (.slice I (n+m) az) (n+m) (xs++br)) (aJ:w.grownBy ac (Value.slice A n c).ownBlock)
  (O:(Value.slice I (n+m) az).ownBlock=(Value.slice A n c).ownBlock∨(Value.slice I (n+m) az).ownBlock=some s):Gr f B e cY ac I (n+m) az (l++k):=by
 refine⟨by simp[hl,hm],_,S,D.cA ?_ ?_⟩
 ·refine D.bK (fun b aW=>⟨aW.1,JR aW.2.1 aJ.size,fun hc=>?_⟩) _ _ (D.bJ (fun b aW=>aJ.block b aW.2.1 fun he=>aW.2.2 he.symm) _ _ aC);exact wL
 ·refine D.bK (fun b aW=>⟨aW.1,JR aW.2.1 aJ.size,fun hc=>?_⟩) _ _ (D.bJ (fun b aW=>aJ.block b aW.2.1 fun he=>aW.2.2 he.symm) _ _ hd);exact wL
theorem DK{Q:Exit→Act→World→Prop}(bk:bX P t e z size bytes)(s x:Operand)
  (a8:o.op=.call {callee:=.builtin .append,args:=#[s,x],argTypes:=#[t,t]})
  {A A2:Kr} {n c m c2:Nat} {l k:List D} (h0:Gr f B e size J A n c l) (aj:Sl J (lg f J (.slice A n c)) A2 m k) (bi:∀d∈k,d.sz=size)
  (hs:a.eval s=.slice A n c) (hx:a.eval x=.slice A2 m c2)
  (y:(n+m)*bytes≤140737488355328) (C:n+m≤140737488355328) (r:B≤J.heap.size)
  (h:∀I az ac,Gr f B e size ac I (n+m) az (l++k)→Fr (fun b=>(Value.slice A n c).ownBlock=some b) J ac→dc J A n c I (n+m) az→n+m≤az→K (a.put o.dst (.slice I (n+m) az)) ac):o.wp P a J K Q:=by
 obtain⟨hl,xs,ae,aC⟩:=h0;obtain⟨br,aU,av⟩:=aj.src bi;refine jZ _ bk s x a8 B _ n xs hs ae _ m c2 br hx av y C r (fun h=>(by subst h;exact aj.none_)) fun G ac bE cx H=>?_;obtain⟨I,az,rfl,hc,_⟩:=bs bE;exact h I az ac (Gr.FY hl aj.1 ae aC aU (s:=J.heap.size) (JQ _) bE cx H) (Kn.grown cx fun g aJ=>.inl aJ) (fun b O=>by
  rcases H with H|H
  ·rw[H] at O;exact .inl O
  ·rw[H] at O;injection O with O;right;omega) hc
theorem wx{ops:Array Oper}{rest:List Oper}{Q:Exit→Act→World→Prop}(bk:bX P t e z size bytes)(i:o.guard=none)(s x:Operand)
  (a8:o.op=.call {callee:=.builtin .append,args:=#[s,x],argTypes:=#[t,t]})
  {A A2:Kr} {n c m c2:Nat} {l k:List D} (h0:Gr f B e size J A n c l) (aj:Sl J (lg f J (.slice A n c)) A2 m k) (bi:∀d∈k,d.sz=size)
  (hs:a.eval s=.slice A n c) (hx:a.eval x=.slice A2 m c2)
  (y:(n+m)*bytes≤140737488355328) (C:n+m≤140737488355328) (r:B≤J.heap.size)
  (h:∀I az ac,Gr f B e size ac I (n+m) az (l++k)→Fr (fun b=>(Value.slice A n c).ownBlock=some b) J ac→dc J A n c I (n+m) az→n+m≤az→wpList P ops Q rest (a.put o.dst (.slice I (n+m) az)) ac):wpList P ops Q (o::rest) a J:=
 wpList_plain i fun _ hK=>DK bk s x a8 h0 aj bi hs hx y C r fun I az ac b7 g2 ca cJ=>hK _ _ (h I az ac b7 g2 ca cJ)
end
structure k4(B:Nat)(e1:TypeId)(bq:Nat)(e2:TypeId)(a9:Nat)(w:World)(A:Kr)(n c:Nat)(l:List D)(I:Kr)(aZ az:Nat)(aV:List D):Prop where
 one:Gr (fun b=>B≤b∧(Value.slice I aZ az).ownBlock≠some b) B e1 bq w A n c l
 two:Gr (fun b=>B≤b∧(Value.slice A n c).ownBlock≠some b) B e2 a9 w I aZ az aV
 ne:∀b,(Value.slice A n c).ownBlock=some b→(Value.slice I aZ az).ownBlock≠some b
section
variable {B:Nat} {e1 e2:TypeId} {bq a9:Nat} {w ac:World} {A I A2:Kr} {n c aZ az n2 c2:Nat} {l aV N:List D}
theorem k4.nil(B:Nat)(e1:TypeId)(bq:Nat)(e2:TypeId)(a9:Nat)(w:World):k4 B e1 bq e2 a9 w none 0 0 [] none 0 0 []:=⟨Gr.nil _ _ _ _ _,Gr.nil _ _ _ _ _,fun b h=>by cases h⟩
theorem k4.swap(h:k4 B e1 bq e2 a9 w A n c l I aZ az aV):k4 B e2 a9 e1 bq w I aZ az aV A n c l:=⟨h.two,h.one,fun b ae aC=>h.ne b aC ae⟩
theorem k4.cO(h:k4 B e1 bq e2 a9 w A n c l I aZ az aV)(O:Fr M w ac)(hM:∀b,M b→b<w.heap.size→b<B):k4 B e1 bq e2 a9 ac A n c l I aZ az aV:=by
 refine⟨h.one.c7 O.size fun b aw hp=>O.block b aw fun hm=>?_,h.two.c7 O.size fun b aw hp=>O.block b aw fun hm=>?_,h.ne⟩
 ·have:=hM b hm aw;rcases hp with hp|hp
  ·have:=hp.1;omega
  ·have:=(h.one.lt hp).1;omega
 ·have:=hM b hm aw;rcases hp with hp|hp
  ·have:=hp.1;omega
  ·have:=(h.two.lt hp).1;omega
theorem k4.ak(h:k4 B e1 bq e2 a9 w A n c l I aZ az aV)(O:Ext w ac):k4 B e1 bq e2 a9 ac A n c l I aZ az aV:=h.cO O fun _ h _=>h.elim
theorem k4.grow(h:k4 B e1 bq e2 a9 w A n c l I aZ az aV)(aJ:Gr (fun b=>B≤b∧(Value.slice I aZ az).ownBlock≠some b) B e1 bq ac A2 n2 c2 N)(aD:Fr (fun b=>(Value.slice A n c).ownBlock=some b) w ac)(a8:dc w A n c A2 n2 c2) :
  k4 B e1 bq e2 a9 ac A2 n2 c2 N I aZ az aV:=by
 have ae:Gr (fun b=>(B≤b∧(Value.slice A n c).ownBlock≠some b)∧(Value.slice A2 n2 c2).ownBlock≠some b) B e2 a9 w I aZ az aV:=h.two.mono fun b aw hp=>⟨hp,fun O=>by
  rcases a8 b O with ae|ae
  ·exact hp.2 ae
  ·omega⟩
 have aC:=ae.c7 aD.size fun b aw hp=>aD.block b aw fun hm=>by
  rcases hp with hp|hp
  ·exact hp.1.2 hm
  ·exact h.ne b hm hp
 refine⟨aJ,aC.mono fun b _ hp=>⟨hp.1.1,hp.2⟩,fun b O aC=>?_⟩;rcases a8 b O with ae|ae
 ·exact h.ne b ae aC
 ·have:=(h.two.lt aC).2;omega
end
theorem Gr.lit{P:Nat→Prop}{w:World}{e:TypeId}{z n:Nat}{cs:Array Value}{l:List D}(hl:l.length=n)(T:cs.size=n*z)(hn:n≤1000000)(aU:D.aI w (fun b=>P b∧b<w.heap.size) l cs.toList):
  Gr P w.heap.size e z (w.alloc (.cells cs e)) (some ⟨w.heap.size,0,none⟩) n n l:=by
 refine⟨hl,cs.toList,World.ownsRow_lit w _ n (JQ _) (by unfold maxLen;omega) T,?_⟩;refine D.bK (fun b O=>⟨O.1,by have:=O.2;simp;omega,fun hc=>?_⟩) _ _ (D.bJ (fun b O=>Below.heap_alloc w _ b O.2) _ _ aU);simp[Value.ownBlock] at hc;have:=O.2;omega
def q6(g:Nat):World→Nat→List Value→World
 | V,_,[]=>V
 | V,i,v::vs=>q6 g (V.setCell ⟨g,i,none⟩ v) (i+1) vs
def j5:Array Value→Nat→List Value→Array Value
 | cs,_,[]=>cs
 | cs,i,v::vs=>j5 (cs.setIfInBounds i v) (i+1) vs
theorem lU:∀(vs:List Value) (i:Nat) (cs:Array Value),i+vs.length≤cs.size→(j5 cs i vs).toList=cs.toList.take i++vs++cs.toList.drop (i+vs.length)
 | [],i,cs,_=>by simp[j5]
 | v::vs,i,cs,h=>by
  simp only[J3] at h;rw[j5,lU vs (i+1) _ (by simp;omega),Array.toList_setIfInBounds];have al:i<cs.toList.length:=by simp;omega
  rw[List.take_succ_eq_append_getElem (by simpa using al),List.take_set_of_le (JQ _),List.drop_set_of_lt ab];simp[Nat.add_assoc,Nat.add_comm 1]
theorem kQ{g:Nat}{t:TypeId}:∀(vs:List Value) (i:Nat) (V:World) (cs:Array Value),af V g t cs→af (q6 g V i vs) g t (j5 cs i vs)
 | [],_,_,_,h=>h
 | _::vs,i,_,_,h=>kQ vs (i+1) _ _ (h.aC i _)
theorem ko{g:Nat}:∀(vs:List Value) (i:Nat) (V:World),Fr (fun b=>b=g) V (q6 g V i vs)
 | [],_,_=>Kn
 | _::vs,i,_=>Fr.trans ((Fr.refl (fun b=>b=g) _).setCell (.inl rfl) _) (ko vs (i+1) _)
theorem cb{w X V:World}{t:TypeId}{cs:Array Value}(vs:List Value)(hs:cs.size=vs.length)(aL:af V g t cs)(aF:Ext w V)(aJ:w.heap.size≤g)(hX:q6 g V 0 vs=X):
  af X g t vs.toArray∧Ext w X∧Fr (fun b=>b=g) V X:=by
 subst hX;have aD:=ko (g:=g) vs 0 V;refine⟨?_,Fr.low (M:=fun b=>b=g) (Fr.trans (Fr.mono aF fun _ h=>h.elim) aD) fun k aj=>by subst aj;exact aJ,aD⟩;have ae:=kQ vs 0 V cs aL;have aC:j5 cs 0 vs=vs.toArray:=by
  apply Array.toList_inj.1
  rw[lU vs 0 cs ab];simp;omega
 rwa [aC] at ae
section
variable {P:Program} {f:Nat→Prop} {B:Nat} {e t:TypeId} {z:Value} {size bytes:Nat}
theorem eO{Q:Exit→Act→World→Prop}(bk:bX P t e z size bytes)(s x:Operand)
  (a8:o.op=.call {callee:=.builtin .append,args:=#[s,x],argTypes:=#[t,t]})
  {A:Kr} {n c g:Nat} {l:List D} (h0:Gr f B e size J A n c l) {d:D} {cs:Array Value} {i:TypeId} (aL:af J g i cs) (hd:d.rep J (lg f J (.slice A n c)) cs.toList)
  (hs:a.eval s=.slice A n c) (hx:a.eval x=.slice (some ⟨g,0,none⟩) 1 1) (T:cs.size=size)
  (y:(n+1)*bytes≤140737488355328) (C:n+1≤140737488355328) (r:B≤J.heap.size)
  (h:∀I az ac,Gr f B e size ac I (n+1) az (l++[d])→Fr (fun b=>(Value.slice A n c).ownBlock=some b) J ac→dc J A n c I (n+1) az→n+1≤az→K (a.put o.dst (.slice I (n+1) az)) ac):o.wp P a J K Q:=by
 obtain⟨hl,xs,ae,aC⟩:=h0;have av:Src J size (some ⟨g,0,none⟩) 1 cs.toList:=⟨by simpa using T,D.sI _ _ hd,fun _=>⟨g,0,rfl,fun j u bc=>by
  rw[J8,aL.cell];simpa using bc⟩⟩
 refine jZ _ bk s x a8 B _ n xs hs ae _ 1 1 cs.toList hx av y C r (fun h=>nomatch h) fun G ac bE cx H=>?_;obtain⟨I,az,rfl,hc,_⟩:=bs bE;refine h I az ac (Gr.snoc hl ae aC hd (s:=J.heap.size) (JQ _) bE cx H) (Kn.grown cx fun g aJ=>.inl aJ) (fun b O=>?_) hc;exact yS
theorem wy{Q:Exit→Act→World→Prop}(bk:bX P t e z size bytes)(s x:Operand)
  (a8:o.op=.call {callee:=.builtin .append,args:=#[s,x],argTypes:=#[t,t]})
  {A A2:Kr} {n c m c2:Nat} {l k:List D} {br:List Value} (h0:Gr f B e size J A n c l) (aU:D.aI J (lg f J (.slice A n c)) k br) (aj:k.length=m) (av:Src J size A2 m br) (hn:A2=none→m=0)
  (hs:a.eval s=.slice A n c) (hx:a.eval x=.slice A2 m c2)
  (y:(n+m)*bytes≤140737488355328) (C:n+m≤140737488355328) (r:B≤J.heap.size)
  (h:∀I az ac,Gr f B e size ac I (n+m) az (l++k)→Fr (fun b=>(Value.slice A n c).ownBlock=some b) J ac→dc J A n c I (n+m) az→n+m≤az→K (a.put o.dst (.slice I (n+m) az)) ac):o.wp P a J K Q:=by
 obtain⟨hl,xs,ae,aC⟩:=h0;refine jZ _ bk s x a8 B _ n xs hs ae _ m c2 br hx av y C r hn fun G ac bE cx H=>?_;obtain⟨I,az,rfl,hc,_⟩:=bs bE;refine h I az ac (Gr.FY hl aj ae aC aU (s:=J.heap.size) (JQ _) bE cx H) (Kn.grown cx fun g aJ=>.inl aJ) (fun b O=>?_) hc;exact yS
theorem ql{ops:Array Oper}{rest:List Oper}{Q:Exit→Act→World→Prop}(bk:bX P t e z size bytes)(i:o.guard=none)(s x:Operand)
  (a8:o.op=.call {callee:=.builtin .append,args:=#[s,x],argTypes:=#[t,t]})
  {A A2:Kr} {n c m c2:Nat} {l k:List D} {br:List Value} (h0:Gr f B e size J A n c l) (aU:D.aI J (lg f J (.slice A n c)) k br) (aj:k.length=m) (av:Src J size A2 m br) (hn:A2=none→m=0)
  (hs:a.eval s=.slice A n c) (hx:a.eval x=.slice A2 m c2)
  (y:(n+m)*bytes≤140737488355328) (C:n+m≤140737488355328) (r:B≤J.heap.size)
  (h:∀I az ac,Gr f B e size ac I (n+m) az (l++k)→Fr (fun b=>(Value.slice A n c).ownBlock=some b) J ac→dc J A n c I (n+m) az→n+m≤az→wpList P ops Q rest (a.put o.dst (.slice I (n+m) az)) ac):wpList P ops Q (o::rest) a J:=
 wpList_plain i fun _ hK=>wy bk s x a8 h0 aU aj av hn hs hx y C r fun I az ac b7 g2 ca cJ=>hK _ _ (h I az ac b7 g2 ca cJ)
theorem jc{Q:Exit→Act→World→Prop}(bk:bX P t e z size bytes)(s x:Operand)
  (a8:o.op=.call {callee:=.builtin .append,args:=#[s,x],argTypes:=#[t,t]})
  {A2:Kr} {g m c2:Nat} {k:List D} {br:List Value} (h0:Gr f B e size J (some ⟨g,0,none⟩) 0 0 []) (aU:D.aI J (lg f J (.slice (some ⟨g,0,none⟩) 0 0)) k br) (aj:k.length=m) (av:Src J size A2 m br) (hn:A2=none→m=0)
  (hs:a.eval s=.slice (some ⟨g,0,none⟩) 0 0) (hx:a.eval x=.slice A2 m c2)
  (y:m*bytes≤140737488355328) (C:m≤140737488355328) (r:B≤J.heap.size)
  (h:∀I az ac,Gr f B e size ac I m az k→Fr (fun b=>b=g) J ac→(∀b,(Value.slice I m az).ownBlock=some b→b=g∨J.heap.size≤b)→m≤az→K (a.put o.dst (.slice I m az)) ac):o.wp P a J K Q:=by
 refine wy bk s x a8 h0 aU aj av hn hs hx (by rw[J8];exact y) ab r fun I az ac b7 g2 ca cJ=>?_;simp only[J8,Kg] at b7 ca cJ ⊢;exact h I az ac b7 (g2.mono fun b O=>by simp[Value.ownBlock] at O;exact O.symm) (fun b O=>(ca b O).imp (fun h=>by simp[Value.ownBlock] at h;exact h.symm) id) cJ
end
section
variable {P:Program} {ops:Array Oper} {Q:Exit→Act→World→Prop} {R:World→World→Prop} {tails:List Nat}
theorem ix{δ:Type}{aa:α→β→γ→δ→Act}{C:α→β→γ→δ→World→Prop}(h:(∀x y z u V,C x y z u V→c5 P ops Q R tails rest (aa x y z u) V)→G)(key:∀x y z u V,C x y z u V→c5 P ops Q R tails rest (aa x y z u) V):G:=h key
theorem iw{aa:α→β→γ→Act}{C:α→β→γ→World→Prop}(h:(∀x y z V,C x y z V→c5 P ops Q R tails rest (aa x y z) V)→G)(key:∀x y z V,C x y z V→c5 P ops Q R tails rest (aa x y z) V):G:=h key
theorem qi{aa:α→β→Act}{C:α→β→World→Prop}(h:(∀x y V,C x y V→c5 P ops Q R tails rest (aa x y) V)→G)(key:∀x y V,C x y V→c5 P ops Q R tails rest (aa x y) V):G:=h key
theorem wk{aa:α→Act}{C:α→World→Prop}(h:(∀x V,C x V→c5 P ops Q R tails rest (aa x) V)→G)(key:∀x V,C x V→c5 P ops Q R tails rest (aa x) V):G:=h key
end
theorem Gt{w a b:World}(ae:Ext w a)(aC:Ext w b)(hs:a.heap.size=w.heap.size+1)(bz:a.heap.size≤b.heap.size):Fr (fun k=>k=w.heap.size) a b:=
 ⟨aC.os.trans ae.os.symm,aC.tape.trans ae.tape.symm,aC.output.trans ae.output.symm,bz,fun k aj hn=>(aC.block k ab fun h=>h).trans (ae.block k ab fun h=>h).symm⟩
theorem vr{P:Nat→Prop}{w ac:World}{v:Value}(h:d.rep w (lg P w v) cs)(he:Ext w ac):d.rep ac (lg P ac v) cs:=
 D.aF (fun b O=>⟨O.1,JR O.2.1 he.size,O.2.2⟩) _ _ (D.aN (fun b O=>he.block b O.2.1 fun h=>h) _ _ h)
end Go.Proofs.YtbkhhfajcgkpgaaGreat
