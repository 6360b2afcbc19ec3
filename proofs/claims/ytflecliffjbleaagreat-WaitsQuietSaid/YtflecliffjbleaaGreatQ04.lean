/- Part 4 of the proof. No condition of its own. -/
import Derived.Test.YtflecliffjbleaaGreatQ02
namespace Go.Proofs.YtflecliffjbleaaGreat
open Go.RowKit Go.Proofs.Tryz
set_option maxRecDepth 1000000
set_option maxHeartbeats 25600000
set_option linter.unusedVariables false
variable{a:Act}{K:Act->World->Prop}{d:D}{m:List D}{cs xs:List Value}{sz:Nat}{M:Nat->Prop}{o:Oper}{rest:PT}{G:Prop}{α β γ:Type}{S:World}
structure eN where
 name:ByteArray
 idx:Option VE
inductive dd where
 | mx (r:eN)
 | ex (e:VE)
inductive ak where
 | nil
 | set (isVar:Bool) (n:ByteArray) (e:VE) (rest:ak)
 | call (a:Bool) (n:ByteArray) (args:List dd) (rest:ak)
 | lock (un:Bool) (r:eN) (rest:ak)
 | ite (e:VE) (th el rest:ak)
 | gp (e:VE) (th rest:ak)
 | ret (rest:ak)
structure aA where
 name:ByteArray
 params:List (ByteArray×Bool)
 body:ak
structure bD where
 globals:List (ByteArray×Int)
 ae:List bF
 funcs:List aA
structure bJ where
 param:Bool
 index:Int
 at_:Option VE
structure ay where
 op:Int
 target:Int
 dw:Bool
 expr:Option VE
 place:bJ
 ints:List VE
 places:List bJ
structure di where
 name:ByteArray
 ints:Int
 aw:Int
 locals:Int
 code:List ay
structure av where
 globals:List Int
 ae:List bF
 procs:List di
 main:Int
structure al where
 proc:Int
 pc:Int
 ints:List Int
 aw:List Int
structure ag where
 globals:List Int
 table:List dn
 threads:List (List al)
 fault:Int
def bf:VE->D
 | .num n=>.st [.i 1,.i n,.s ⟨#[]⟩,.sl []]
 | .gT s=>.st [.i 2,.i 0,.s s,.sl []]
 | .loc k=>.st [.i 18,.i k,.s ⟨#[]⟩,.sl []]
 | .iz k=>.st [.i 19,.i k,.s ⟨#[]⟩,.sl []]
 | .un op x=>.st [.i op,.i 0,.s ⟨#[]⟩,.sl [bf x]]
 | .bin op x y=>.st [.i op,.i 0,.s ⟨#[]⟩,.sl [bf x,bf y]]
def jQ:D:=.st [.i 0,.i 0,.s ⟨#[]⟩,.sl []]
def oH:Option VE->D
 | none=>jQ
 | some x=>bf x
def VE.aZ:VE->Int
 | .num _=>1
 | .gT _=>2
 | .loc _=>18
 | .iz _=>19
 | .un op _=>op
 | .bin op _ _=>op
def VE.numOf:VE->Int
 | .num n=>n
 | .loc k=>k
 | .iz k=>k
 | _=>0
def VE.bk:VE->ByteArray
 | .gT s=>s
 | _=>⟨#[]⟩
def VE.args:VE->List VE
 | .un _ x=>[x]
 | .bin _ x y=>[x,y]
 | _=>[]
theorem xT(x:VE):bf x=.st [.i x.aZ,.i x.numOf,.s x.bk,.sl (x.args.map bf)]:=by
 cases x<;>simp[bf,VE.aZ,VE.numOf,VE.bk,VE.args]
theorem dg(x:VE):(bf x).sz=4:=by rw[xT];rfl
section
variable {w:World} {P:Nat->Prop}
theorem aK:D.aJ w P [] cs↔cs=[]:=by simp only[D.aJ]
theorem a5{n:Int}{l:List D}:D.aJ w P (.i n::l) cs↔∃y,cs=.int .i64 n::y/\D.aJ w P l y:=by
 exact CT
theorem fi{n:Bool}{l:List D}:D.aJ w P (.b n::l) cs↔∃y,cs=.bool n::y/\D.aJ w P l y:=by
 exact CT
theorem ch{n:ByteArray}{l:List D}:D.aJ w P (.s n::l) cs↔∃y,cs=.string n::y/\D.aJ w P l y:=by
 exact CT
theorem aF{l:List D}:D.aJ w P (.sl m::l) cs↔∃A n c y,cs=.slice A n c::y/\n<=c/\Sl w P A n m/\D.aJ w P l y:=by
 constructor
 .intro h;simp only[D.aJ] at h;obtain⟨x,y,rfl,hx,h⟩:=h;obtain⟨A,c,n,rfl,hc,hs⟩:=D.ts.1 hx;exact⟨A,n,c,y,rfl,hc,hs,h⟩
 .rintro⟨A,n,c,y,rfl,hc,hs,h⟩;simp only[D.aJ];exact⟨_,y,rfl,D.ts.2 ⟨A,c,n,rfl,hc,hs⟩,h⟩
theorem bB:(D.st m).rep w P cs↔D.aJ w P m cs:=by simp only[D.rep]
theorem aW{x:VE}:(bf x).rep w P cs↔∃A n c,cs=[.int .i64 x.aZ,.int .i64 x.numOf,.string x.bk,.slice A n c]/\n<=c/\Sl w P A n (x.args.map bf):=by
 rw[xT,bB,a5];constructor
 .rintro⟨y,rfl,h⟩;obtain⟨cr,rfl,ae⟩:=a5.1 h;obtain⟨br,rfl,aD⟩:=ch.1 ae;obtain⟨A,n,c,aa,rfl,hc,hs,aU⟩:=aF.1 aD;exact xE
 .rintro⟨A,n,c,rfl,hc,hs⟩;exact⟨_,rfl,a5.2 ⟨_,rfl,ch.2 ⟨_,rfl,aF.2 ⟨A,n,c,[],rfl,hc,hs,aK.2 rfl⟩⟩⟩⟩
theorem fa:jQ.rep w P cs↔∃A c,cs=[.int .i64 0,.int .i64 0,.string ⟨#[]⟩,.slice A 0 c]:=by
 unfold jQ;rw[bB,a5];constructor
 .rintro⟨y,rfl,h⟩;obtain⟨cr,rfl,ae⟩:=a5.1 h;obtain⟨br,rfl,aD⟩:=ch.1 ae;obtain⟨A,n,c,aa,rfl,hc,hs,aU⟩:=aF.1 aD;rw[aK] at aU;subst aU;obtain rfl:n=0:=hs.1.symm;exact⟨A,c,rfl⟩
 .rintro⟨A,c,rfl⟩;exact⟨_,rfl,a5.2 ⟨_,rfl,ch.2 ⟨_,rfl,aF.2 ⟨A,0,c,[],rfl,Lx _,Sl.bN A,aK.2 rfl⟩⟩⟩⟩
theorem Sl.DP{A:LP}(h:Sl w P A 1 [d])(ba:d.sz=4):∃b o bs Z bu E,A=some ⟨b,o,none⟩/\P b/\d.rep w P [bs,Z,bu,E]/\
  w.cell? ⟨b,o,none⟩=some bs/\w.cell? ⟨b,o+1,none⟩=some Z/\w.cell? ⟨b,o+2,none⟩=some bu/\w.cell? ⟨b,o+3,none⟩=some E:=by
 obtain⟨b,o,a,cs,bp,O,hd,aQ,hl,hc⟩:=h.at_ (z:=4) (k:=0) (λe he=>by simp at he;subst he;exact ba) ab;simp at hd;subst hd
 match cs,hl with
 | [bs,Z,bu,E],_=>
  have h0:=hc 0 bs rfl;have ae:=hc 1 Z rfl;have aD:=hc 2 bu rfl;have aU:=hc 3 E rfl;simp only[Nat.zero_mul,Ll] at h0 ae aD aU;exact⟨b,o,bs,Z,bu,E,bp,O,aQ,h0,ae,aD,aU⟩
theorem Sl.JU{A:LP}{e:D}(h:Sl w P A 2 [d,e])(ba:d.sz=4)(bm:e.sz=4):∃b o bs Z bu E cu cr br aa,A=some ⟨b,o,none⟩/\P b/\d.rep w P [bs,Z,bu,E]/\e.rep w P [cu,cr,br,aa]/\
  w.cell? ⟨b,o,none⟩=some bs/\w.cell? ⟨b,o+1,none⟩=some Z/\w.cell? ⟨b,o+2,none⟩=some bu/\w.cell? ⟨b,o+3,none⟩=some E/\
  w.cell? ⟨b,o+4,none⟩=some cu/\w.cell? ⟨b,o+5,none⟩=some cr/\w.cell? ⟨b,o+6,none⟩=some br/\w.cell? ⟨b,o+7,none⟩=some aa:=by
 have s:∀x∈[d,e],x.sz=4:=λx hx=>by
  simp at hx;rcases hx with rfl|rfl<;>assumption
 obtain⟨b,o,a,cs,bp,O,hd,aQ,hl,hc⟩:=h.at_ (z:=4) (k:=0) s ab;obtain⟨M,av,l,f,aB,_,he,J,ax,a9⟩:=h.at_ (z:=4) (k:=1) s ab;rw[bp] at aB;injection aB with aB;injection aB with aX b9;subst aX b9;simp at hd he;subst hd he
 match cs,hl,f,ax with
 | [bs,Z,bu,E],_,[cu,cr,br,aa],_=>
  have h0:=hc 0 bs rfl;have ae:=hc 1 Z rfl;have aD:=hc 2 bu rfl;have aU:=hc 3 E rfl;have cE:=a9 0 cu rfl;have cd:=a9 1 cr rfl;have bJ:=a9 2 br rfl;have aZ:=a9 3 aa rfl;simp only[Nat.zero_mul,Ll,Nat.one_mul,Nat.add_assoc,Nat.reduceAdd] at h0 ae aD aU cE cd bJ aZ;exact⟨b,o,bs,Z,bu,E,cu,cr,br,aa,bp,O,aQ,J,h0,ae,aD,aU,cE,cd,bJ,aZ⟩
theorem kG:∀(x:VE) (cs:List Value),(bf x).rep w P cs->x.rep w P cs
 | .num n,cs,h=>by
  obtain⟨A,n,c,rfl,_,hs⟩:=aW.1 h;obtain rfl:n=0:=hs.1.symm
  exact⟨_,_,_,rfl⟩
 | .gT s,cs,h=>by
  obtain⟨A,n,c,rfl,_,hs⟩:=aW.1 h;obtain rfl:n=0:=hs.1.symm
  exact⟨_,_,_,rfl⟩
 | .loc k,cs,h=>by
  obtain⟨A,n,c,rfl,_,hs⟩:=aW.1 h;obtain rfl:n=0:=hs.1.symm
  exact⟨_,_,_,rfl⟩
 | .iz k,cs,h=>by
  obtain⟨A,n,c,rfl,_,hs⟩:=aW.1 h;obtain rfl:n=0:=hs.1.symm
  exact⟨_,_,_,rfl⟩
 | .un op x,cs,h=>by
  obtain⟨A,n,c,rfl,_,hs⟩:=aW.1 h;obtain rfl:n=1:=hs.1.symm;obtain⟨b,o,bs,Z,bu,E,rfl,O,aQ,c0,c1,c2,c3⟩:=Sl.DP hs (dg x)
  exact⟨_,_,b,o,c,bs,Z,bu,E,rfl,O,kG x _ aQ,c0,c1,c2,c3⟩
 | .bin op x y,cs,h=>by
  obtain⟨A,n,c,rfl,_,hs⟩:=aW.1 h;obtain rfl:n=2:=hs.1.symm;obtain⟨b,o,bs,Z,bu,E,cu,cr,br,aa,rfl,O,aQ,J,c0,c1,c2,c3,d0,d1,d2,d3⟩:=Sl.JU hs (dg x) (dg y);exact⟨_,_,b,o,c,bs,Z,bu,E,cu,cr,br,aa,rfl,O,kG x _ aQ,kG y _ J,c0,c1,c2,c3,d0,d1,d2,d3⟩
end
def kJ(r:eN):D:=.st [.s r.name,.sl (r.idx.toList.map bf)]
def fQ:D:=.st [.s ⟨#[]⟩,.sl []]
def eD:dd->D
 | .mx r=>.st [.b true,kJ r,jQ]
 | .ex e=>.st [.b false,fQ,bf e]
def gz(kind:Int)(name:ByteArray)(e r:D)(args th el:List D):D:=.st [.i kind,.s name,e,r,.sl args,.sl th,.sl el]
def cY:ak->List D
 | .nil=>[]
 | .set v n e rest=>gz (if v then 1 else 2) n (bf e) fQ [] [] []::cY rest
 | .call g n aI rest=>gz (if g then 4 else 3) n jQ fQ (aI.map eD) [] []::cY rest
 | .lock u r rest=>gz (if u then 6 else 5) ⟨#[]⟩ jQ (kJ r) [] [] []::cY rest
 | .ite e th el rest=>gz 7 ⟨#[]⟩ (bf e) fQ [] (cY th) (cY el)::cY rest
 | .gp e th rest=>gz 8 ⟨#[]⟩ (bf e) fQ [] (cY th) []::cY rest
 | .ret rest=>gz 9 ⟨#[]⟩ jQ fQ [] [] []::cY rest
def ct(p:ByteArray×Bool):D:=.st [.s p.1,.b p.2]
def dr(f:aA):D:=.st [.s f.name,.sl (f.params.map ct),.sl (cY f.body)]
def ix(g:ByteArray×Int):D:=.st [.s g.1,.i g.2]
def ek(m:bF):D:=.st [.s m.name,.b m.re,.i m.size]
def ds(p:bJ):D:=.st [.b p.param,.i p.index,.sl (p.at_.toList.map bf)]
def dV(x:ay):D:=.st [.i x.op,.i x.target,.b x.dw,oH x.expr,ds x.place,.sl (x.ints.map bf),.sl (x.places.map ds)]
def fX(p:di):D:=.st [.s p.name,.i p.ints,.i p.aw,.i p.locals,.sl (p.code.map dV)]
def ua(u:av):D:=.st [.sl (u.globals.map D.i),.sl (u.ae.map ek),.sl (u.procs.map fX),.i u.main]
def hz(f:al):D:=.st [.i f.proc,.i f.pc,.sl (f.ints.map D.i),.sl (f.aw.map D.i)]
def mS(t:List al):D:=.st [.sl (t.map hz)]
def mQ(h:dn):D:=.st [.i h.owner,.i h.depth]
theorem Sl.Jd{enc:α->D}{f:α->List Value}(J:∀(w:World) (P:Nat->Prop) (x:α) (cs:List Value),(enc x).rep w P cs->cs=f x)(ba:∀x,(enc x).sz=sz)
  {w:World} {A:LP} {n:Nat} {l:List α} (h:Sl w (au w) A n (l.map enc)):cK (EF f) sz w w.heap.size A n l:=by
 have hl:l.length=n:=by rw[<-h.1,Lf]
 refine⟨hl,λhn=>?_⟩;obtain⟨b,o,bp,O⟩:=h.some_ hn;refine⟨b,o,bp,O,λk x hx=>?_⟩;have ai:k<n:=by have:=(List.getElem?_eq_some_iff.1 hx).1;omega
 obtain⟨M,av,y,cs,aB,_,a4,aQ,aK,hc⟩:=h.gZ ba ai;rw[bp] at aB;injection aB with aB;injection aB with ae aD;subst ae aD;rw[hx] at a4;injection a4 with a4;subst a4;exact⟨cs,J _ _ _ _ aQ,aK,hc⟩
theorem m7{α:Type}{enc:α->D}{f:α->List Value}{w:World}{P:Nat->Prop}(J:∀x,(enc x).rep w P (f x)):∀l:List α,D.aJ w P (l.map enc) (l.flatMap f)
 | []=>by simp only[Ly,D.aJ,List.flatMap_nil]
 | x::l=>by
  rw[Lh,Lv];simp only[D.aJ];exact⟨_,_,rfl,J x,m7 J l⟩
theorem cK.sl{enc:α->D}{f:α->List Value}{w:World}{P:Nat->Prop}{B n:Nat}{A:LP}{l:List α}(J:∀x,(enc x).rep w P (f x))(hs:∀x,(f x).length=sz)(h0:0<sz)
  (h:cK (EF f) sz w B A n l) (aY:∀b,b<B->P b):Sl w P A n (l.map enc):=by
 refine⟨by rw[Lf,h.1],λhn=>?_⟩;obtain⟨b,o,bp,O,hc⟩:=h.2 hn;refine⟨b,o,l.flatMap f,bp,aY b O,m7 J l,λj u bd=>?_⟩;have bR:=(List.getElem?_eq_some_iff.1 bd).1;rw[gb f sz l λx _=>hs x] at bR;have aW:j / sz<l.length:=by rw[Nat.div_lt_iff_lt_mul h0];exact bR
 have hx:l[j / sz]?=some (l[j / sz]'aW):=List.getElem?_eq_getElem aW;have d:=Nat.mod_lt j h0;have a:j / sz*sz+j % sz=j:=Nat.div_add_mod' j sz;have cn:=fD f sz l (λx _=>hs x) _ _ hx (j % sz) d;rw[a,bd] at cn;obtain⟨cs,he,_,c⟩:=hc _ _ hx;rw[EF] at he;subst he;have:=c _ _ cn.symm
 rwa [Nat.add_assoc,a] at this
theorem yb{w:World}{P:Nat->Prop}{x:Int}:(D.i x).rep w P cs↔cs=b5 x:=by simp only[D.rep,b5]
theorem Sl.ints{w:World}{A:LP}{n:Nat}{l:List Int}(h:Sl w (au w) A n (l.map D.i)):cK (EF b5) 1 w w.heap.size A n l:=Sl.Jd (enc:=D.i) (f:=b5) (λ_ _ _ _=>yb.1) (λ_=>rfl) h
theorem cK.ints{w:World}{P:Nat->Prop}{B n:Nat}{A:LP}{l:List Int}(h:cK (EF b5) 1 w B A n l)(aY:∀b,b<B->P b):Sl w P A n (l.map D.i):=cK.sl (enc:=D.i) (f:=b5) (λ_=>yb.2 rfl) (λ_=>rfl) (by decide) h aY
theorem e4{w:World}{P:Nat->Prop}{m:bF}:(ek m).rep w P cs↔cs=hy m:=by
 unfold ek;rw[bB,ch];constructor
 .rintro⟨y,rfl,h⟩;rw[fi] at h;exact zM
 .rintro rfl;exact⟨_,rfl,fi.2 ⟨_,rfl,a5.2 ⟨_,rfl,aK.2 rfl⟩⟩⟩
theorem uM{w:World}{P:Nat->Prop}{m:dn}:(mQ m).rep w P cs↔cs=cG m:=by
 unfold mQ;rw[bB,a5];exact CR
theorem Sl.rr{w:World}{A:LP}{n:Nat}{l:List bF}(h:Sl w (au w) A n (l.map ek)):cK (EF hy) 3 w w.heap.size A n l:=Sl.Jd (enc:=ek) (f:=hy) (λ_ _ _ _=>e4.1) (λ_=>rfl) h
theorem cK.rr{w:World}{P:Nat->Prop}{B n:Nat}{A:LP}{l:List bF}(h:cK (EF hy) 3 w B A n l)(aY:∀b,b<B->P b):Sl w P A n (l.map ek):=cK.sl (enc:=ek) (f:=hy) (λ_=>e4.2 rfl) (λ_=>rfl) (by decide) h aY
theorem Sl.holds{w:World}{A:LP}{n:Nat}{l:List dn}(h:Sl w (au w) A n (l.map mQ)):cK (EF cG) 2 w w.heap.size A n l:=Sl.Jd (enc:=mQ) (f:=cG) (λ_ _ _ _=>uM.1) (λ_=>rfl) h
theorem cK.holds{w:World}{P:Nat->Prop}{B n:Nat}{A:LP}{l:List dn}(h:cK (EF cG) 2 w B A n l)(aY:∀b,b<B->P b):Sl w P A n (l.map mQ):=cK.sl (enc:=mQ) (f:=cG) (λ_=>uM.2 rfl) (λ_=>rfl) (by decide) h aY
abbrev lu(P:Nat->Prop)(w:World)(v:Value):Nat->Prop:=λb=>P b/\b<w.heap.size/\v.ownBlock≠some b
structure Gr(P:Nat->Prop)(B:Nat)(e:TypeId)(z:Nat)(w:World)(A:LP)(n c:Nat)(l:List D):Prop where
 len:l.length=n
 ex:∃xs,w.ownsRow B e z (.slice A n c) n xs/\D.aJ w (lu P w (.slice A n c)) l xs
section
variable {P Q:Nat->Prop} {B q:Nat} {e:TypeId} {z:Nat} {w ac aP:World} {A:LP} {n c:Nat} {l:List D}
theorem Gr.nil(P:Nat->Prop)(B:Nat)(e:TypeId)(z:Nat)(w:World):Gr P B e z w none 0 0 []:=⟨rfl,[],⟨by simp,.inl ⟨rfl,rfl⟩⟩,by simp only[D.aJ]⟩
theorem Gr.lt(h:Gr P B e z w A n c l){g:Nat}(aK:(Value.slice A n c).ownBlock=some g):B<=g/\g<w.heap.size:=by
 obtain⟨_,xs,ae,_⟩:=h;exact ae.lt g aK
theorem Gr.cap(h:Gr P B e z w A n c l):n<=c/\c<=maxLen:=by
 obtain⟨_,xs,ae,_⟩:=h;obtain⟨_,_,bD,aD,aU,_⟩:=bx ae;injection bD with _ _ bD;subst bD;exact⟨aD,aU⟩
theorem Gr.ai(h:Gr P B e z w A n c l)(hs:w.heap.size<=ac.heap.size)(ai:∀b,b<w.heap.size->(P b\/B<=b)->ac.heap[b]?=w.heap[b]?):Gr P B e z ac A n c l:=by
 obtain⟨hl,xs,ae,aD⟩:=h;refine⟨hl,xs,⟨ae.1,?_⟩,D.bQ (λb O=>⟨O.1,Lc O.2.1 hs,O.2.2⟩) _ _ (D.bP (λb O=>ai b O.2.1 (.inl O.1)) _ _ aD)⟩;rcases ae.2 with aU|⟨g,cap,cur,bD,j,aI,rest⟩
 .exact .inl aU
 .exact .inr ⟨g,cap,cur,bD,j,(ai g (Array.getElem?_eq_some_iff.1 aI).1 (.inr j)).trans aI,rest⟩
theorem Gr.c7(h:Gr P B e z w A n c l)(hs:w.heap.size<=ac.heap.size)(ai:∀b,b<w.heap.size->(P b\/(Value.slice A n c).ownBlock=some b)->ac.heap[b]?=w.heap[b]?):Gr P B e z ac A n c l:=by
 obtain⟨hl,xs,ae,aD⟩:=h;refine⟨hl,xs,⟨ae.1,?_⟩,D.bQ (λb O=>⟨O.1,Lc O.2.1 hs,O.2.2⟩) _ _ (D.bP (λb O=>ai b O.2.1 (.inl O.1)) _ _ aD)⟩;rcases ae.2 with aU|⟨g,cap,cur,bD,j,aI,rest⟩
 .exact .inl aU
 .exact .inr ⟨g,cap,cur,bD,j,(ai g (Array.getElem?_eq_some_iff.1 aI).1 (.inr (by rw[bD];rfl))).trans aI,rest⟩
theorem Gr.base{q:Nat}(h:Gr P B e z w A n c l)(aN:q<=B):Gr P q e z w A n c l:=by
 obtain⟨hl,xs,ae,aD⟩:=h;refine⟨hl,xs,⟨ae.1,?_⟩,aD⟩;rcases ae.2 with aU|⟨g,cap,cur,bD,j,aI,rest⟩
 .exact .inl aU
 .exact .inr ⟨g,cap,cur,bD,ab,aI,rest⟩
theorem Gr.mono(h:Gr P B e z w A n c l)(aY:∀b,b<w.heap.size->P b->Q b):Gr Q B e z w A n c l:=by
 obtain⟨hl,xs,ae,aD⟩:=h;exact⟨hl,xs,ae,D.bQ (λb O=>⟨aY b O.2.1 O.1,O.2.1,O.2.2⟩) _ _ aD⟩
theorem Gr.aj(h:Gr P B e z w A n c l)(O:Ext w ac):Gr P B e z ac A n c l:=h.ai O.size λb aw _=>O.block b aw λh=>h
theorem Gr.cS(h:Gr P B e z w A n c l)(O:Fr M w ac)(hM:∀b,M b->b<w.heap.size->¬P b/\b<B):Gr P B e z ac A n c l:=
 h.ai O.size λb aw hp=>O.block b aw λhm=>by
  obtain⟨ae,aD⟩:=hM b hm aw;rcases hp with hp|hp
  .exact ae hp
  .omega
theorem Gr.sl(h:Gr P B e z w A n c l)(aY:∀b,b<w.heap.size->P b->Q b)(aN:∀b,b<w.heap.size->B<=b->Q b):Sl w Q A n l:=by
 obtain⟨hl,xs,ae,aD⟩:=h;exact Sl.qz ae (D.bQ (λb O=>aY b O.2.1 O.1) _ _ aD) hl λg _ ae aD=>aN g aD ae
end
abbrev dp(S:World)(A:LP)(n c:Nat)(I:LP)(a5 aA:Nat):Prop:=∀b,(Value.slice I a5 aA).ownBlock=some b->(Value.slice A n c).ownBlock=some b\/S.heap.size<=b
section
variable {P:Program} {f:Nat->Prop} {B:Nat} {e t:TypeId} {z:Value} {size bytes:Nat}
theorem Gr.snoc{w ac:World}{A I:LP}{n c aA:Nat}{l:List D}{a2:List Value}{c6:Nat}(hl:l.length=n)(ae:w.ownsRow B e c6 (.slice A n c) n xs)(aD:D.aJ w (lu f w (.slice A n c)) l xs)
  (hd:d.rep w (lu f w (.slice A n c)) a2) {s:Nat} (hs:w.heap.size<=s) (ax:ac.ownsRow B e c6 (.slice I (n+1) aA) (n+1) (xs++a2)) (aK:w.grownBy ac (Value.slice A n c).ownBlock)
  (O:(Value.slice I (n+1) aA).ownBlock=(Value.slice A n c).ownBlock\/(Value.slice I (n+1) aA).ownBlock=some s):Gr f B e c6 ac I (n+1) aA (l++[d]):=by
 refine⟨by simp[hl],_,ax,D.cH ?_ (D.bo.2 ?_)⟩
 .refine D.bQ (λb aX=>⟨aX.1,Lc aX.2.1 aK.size,λhc=>?_⟩) _ _ (D.bP (λb aX=>aK.block b aX.2.1 λhe=>aX.2.2 he.symm) _ _ aD);exact xz
 .refine D.aE (λb aX=>⟨aX.1,Lc aX.2.1 aK.size,λhc=>?_⟩) _ _ (D.aP (λb aX=>aK.block b aX.2.1 λhe=>aX.2.2 he.symm) _ _ hd);exact xz
namespace By
theorem A0{p:Prop}(h:p:=by
 exact h I aA ac (Gr.snoc hl ae aD hd (s:=S.heap.size+1) ab bJ aK (by simpa using H)) (LL.grown aK λg aK=>.inl aK) (λb O=>by
  rcases H with H|H
  .rw[H] at O;exact .inl O
  .rw[H] at O;injection O with O;right;simp at O;omega) hc
 ):p:=h
end By
open By in
theorem q2{Q:Exit->Act->World->Prop}(bp:ca P t e z size bytes)(s x:Operand)
  (bl:o.op=.call {callee:=.builtin .append,args:=#[s,x],argTypes:=#[t,t]})
  {A:LP} {n c:Nat} {l:List D} (h0:Gr f B e size S A n c l) {d:D} {cs:Array Value} (hd:d.rep S (lu f S (.slice A n c)) cs.toList)
  (hs:a.eval s=.slice A n c) (hx:a.eval x=.slice (some ⟨S.heap.size,0,none⟩) 1 1) (T:cs.size=size)
  (y:(n+1)*bytes<=140737488355328) (C:n+1<=140737488355328) (r:B<=S.heap.size)
  (h:∀I aA ac,Gr f B e size ac I (n+1) aA (l++[d])->Fr (λb=>(Value.slice A n c).ownBlock=some b) S ac->dp S A n c I (n+1) aA->n+1<=aA->K (a.put o.dst (.slice I (n+1) aA)) ac):o.wp P a (S.alloc (.cells cs e)) K Q:=by
 obtain⟨hl,xs,ae,aD⟩:=h0;refine kf _ bp s x bl B _ n xs hs (ae.alloc _) _ 1 1 cs.toList hx (Src.block (heap_alloc_new S _) 1 ab (D.tm _ _ hd)) y C (by simp;omega) (λh=>nomatch h) λG ac bJ aZ H=>?_;exact AZ
theorem bI{ops:Array Oper}{rest:List Oper}{Q:Exit->Act->World->Prop}(bp:ca P t e z size bytes)(i:o.guard=none)(s x:Operand)
  (bl:o.op=.call {callee:=.builtin .append,args:=#[s,x],argTypes:=#[t,t]})
  {A:LP} {n c:Nat} {l:List D} (h0:Gr f B e size S A n c l) {d:D} {cs:Array Value} (hd:d.rep S (lu f S (.slice A n c)) cs.toList)
  (hs:a.eval s=.slice A n c) (hx:a.eval x=.slice (some ⟨S.heap.size,0,none⟩) 1 1) (T:cs.size=size)
  (y:(n+1)*bytes<=140737488355328) (C:n+1<=140737488355328) (r:B<=S.heap.size)
  (h:∀I aA ac,Gr f B e size ac I (n+1) aA (l++[d])->Fr (λb=>(Value.slice A n c).ownBlock=some b) S ac->dp S A n c I (n+1) aA->n+1<=aA->wpList P ops Q rest (a.put o.dst (.slice I (n+1) aA)) ac):wpList P ops Q (o::rest) a (S.alloc (.cells cs e)):=
 wpList_plain i λ_ hK=>q2 bp s x bl h0 hd hs hx T y C r λI aA ac b9 g2 cI cL=>hK _ _ (h I aA ac b9 g2 cI cL)
theorem Gr.G0{w ac:World}{A I:LP}{n m c aA:Nat}{l k:List D}{a2:List Value}{c6:Nat}(hl:l.length=n)(hm:k.length=m)(ae:w.ownsRow B e c6 (.slice A n c) n xs)(aD:D.aJ w (lu f w (.slice A n c)) l xs)
  (hd:D.aJ w (lu f w (.slice A n c)) k a2) {s:Nat} (hs:w.heap.size<=s) (ax:ac.ownsRow B e c6 (.slice I (n+m) aA) (n+m) (xs++a2)) (aK:w.grownBy ac (Value.slice A n c).ownBlock)
  (O:(Value.slice I (n+m) aA).ownBlock=(Value.slice A n c).ownBlock\/(Value.slice I (n+m) aA).ownBlock=some s):Gr f B e c6 ac I (n+m) aA (l++k):=by
 refine⟨by simp[hl,hm],_,ax,D.cH ?_ ?_⟩
 .refine D.bQ (λb aX=>⟨aX.1,Lc aX.2.1 aK.size,λhc=>?_⟩) _ _ (D.bP (λb aX=>aK.block b aX.2.1 λhe=>aX.2.2 he.symm) _ _ aD);exact xz
 .refine D.bQ (λb aX=>⟨aX.1,Lc aX.2.1 aK.size,λhc=>?_⟩) _ _ (D.bP (λb aX=>aK.block b aX.2.1 λhe=>aX.2.2 he.symm) _ _ hd);exact xz
theorem ED{Q:Exit->Act->World->Prop}(bp:ca P t e z size bytes)(s x:Operand)
  (bl:o.op=.call {callee:=.builtin .append,args:=#[s,x],argTypes:=#[t,t]})
  {A A2:LP} {n c m c2:Nat} {l k:List D} (h0:Gr f B e size S A n c l) (ai:Sl S (lu f S (.slice A n c)) A2 m k) (ba:∀d∈k,d.sz=size)
  (hs:a.eval s=.slice A n c) (hx:a.eval x=.slice A2 m c2)
  (y:(n+m)*bytes<=140737488355328) (C:n+m<=140737488355328) (r:B<=S.heap.size)
  (h:∀I aA ac,Gr f B e size ac I (n+m) aA (l++k)->Fr (λb=>(Value.slice A n c).ownBlock=some b) S ac->dp S A n c I (n+m) aA->n+m<=aA->K (a.put o.dst (.slice I (n+m) aA)) ac):o.wp P a S K Q:=by
 obtain⟨hl,xs,ae,aD⟩:=h0;obtain⟨a2,aQ,av⟩:=ai.src ba;refine kf _ bp s x bl B _ n xs hs ae _ m c2 a2 hx av y C r (λh=>(by subst h;exact ai.none_)) λG ac bJ aZ H=>?_;obtain⟨I,aA,rfl,hc,_⟩:=bx bJ;exact h I aA ac (Gr.G0 hl ai.1 ae aD aQ (s:=S.heap.size) (Lb _) bJ aZ H) (LL.grown aZ λg aK=>.inl aK) (λb O=>by
  rcases H with H|H
  .rw[H] at O;exact .inl O
  .rw[H] at O;injection O with O;right;omega) hc
theorem xj{ops:Array Oper}{rest:List Oper}{Q:Exit->Act->World->Prop}(bp:ca P t e z size bytes)(i:o.guard=none)(s x:Operand)
  (bl:o.op=.call {callee:=.builtin .append,args:=#[s,x],argTypes:=#[t,t]})
  {A A2:LP} {n c m c2:Nat} {l k:List D} (h0:Gr f B e size S A n c l) (ai:Sl S (lu f S (.slice A n c)) A2 m k) (ba:∀d∈k,d.sz=size)
  (hs:a.eval s=.slice A n c) (hx:a.eval x=.slice A2 m c2)
  (y:(n+m)*bytes<=140737488355328) (C:n+m<=140737488355328) (r:B<=S.heap.size)
  (h:∀I aA ac,Gr f B e size ac I (n+m) aA (l++k)->Fr (λb=>(Value.slice A n c).ownBlock=some b) S ac->dp S A n c I (n+m) aA->n+m<=aA->wpList P ops Q rest (a.put o.dst (.slice I (n+m) aA)) ac):wpList P ops Q (o::rest) a S:=
 wpList_plain i λ_ hK=>ED bp s x bl h0 ai ba hs hx y C r λI aA ac b9 g2 cI cL=>hK _ _ (h I aA ac b9 g2 cI cL)
end
structure lG(B:Nat)(e1:TypeId)(R:Nat)(e2:TypeId)(bF:Nat)(w:World)(A:LP)(n c:Nat)(l:List D)(I:LP)(a5 aA:Nat)(aW:List D):Prop where
 one:Gr (λb=>B<=b/\(Value.slice I a5 aA).ownBlock≠some b) B e1 R w A n c l
 two:Gr (λb=>B<=b/\(Value.slice A n c).ownBlock≠some b) B e2 bF w I a5 aA aW
 ne:∀b,(Value.slice A n c).ownBlock=some b->(Value.slice I a5 aA).ownBlock≠some b
section
variable {B:Nat} {e1 e2:TypeId} {R bF:Nat} {w ac:World} {A I A2:LP} {n c a5 aA n2 c2:Nat} {l aW N:List D}
theorem lG.nil(B:Nat)(e1:TypeId)(R:Nat)(e2:TypeId)(bF:Nat)(w:World):lG B e1 R e2 bF w none 0 0 [] none 0 0 []:=⟨Gr.nil _ _ _ _ _,Gr.nil _ _ _ _ _,λb h=>by cases h⟩
theorem lG.swap(h:lG B e1 R e2 bF w A n c l I a5 aA aW):lG B e2 bF e1 R w I a5 aA aW A n c l:=⟨h.two,h.one,λb ae aD=>h.ne b aD ae⟩
theorem lG.cS(h:lG B e1 R e2 bF w A n c l I a5 aA aW)(O:Fr M w ac)(hM:∀b,M b->b<w.heap.size->b<B):lG B e1 R e2 bF ac A n c l I a5 aA aW:=by
 refine⟨h.one.c7 O.size λb aw hp=>O.block b aw λhm=>?_,h.two.c7 O.size λb aw hp=>O.block b aw λhm=>?_,h.ne⟩
 .have:=hM b hm aw;rcases hp with hp|hp
  .have:=hp.1;omega
  .have:=(h.one.lt hp).1;omega
 .have:=hM b hm aw;rcases hp with hp|hp
  .have:=hp.1;omega
  .have:=(h.two.lt hp).1;omega
theorem lG.aj(h:lG B e1 R e2 bF w A n c l I a5 aA aW)(O:Ext w ac):lG B e1 R e2 bF ac A n c l I a5 aA aW:=h.cS O λ_ h _=>h.elim
theorem lG.grow(h:lG B e1 R e2 bF w A n c l I a5 aA aW)(aK:Gr (λb=>B<=b/\(Value.slice I a5 aA).ownBlock≠some b) B e1 R ac A2 n2 c2 N)(J:Fr (λb=>(Value.slice A n c).ownBlock=some b) w ac)(bl:dp w A n c A2 n2 c2) :
  lG B e1 R e2 bF ac A2 n2 c2 N I a5 aA aW:=by
 have ae:Gr (λb=>(B<=b/\(Value.slice A n c).ownBlock≠some b)/\(Value.slice A2 n2 c2).ownBlock≠some b) B e2 bF w I a5 aA aW:=h.two.mono λb aw hp=>⟨hp,λO=>by
  rcases bl b O with ae|ae
  .exact hp.2 ae
  .omega⟩
 have aD:=ae.c7 J.size λb aw hp=>J.block b aw λhm=>by
  rcases hp with hp|hp
  .exact hp.1.2 hm
  .exact h.ne b hm hp
 refine⟨aK,aD.mono λb _ hp=>⟨hp.1.1,hp.2⟩,λb O aD=>?_⟩;rcases bl b O with ae|ae
 .exact h.ne b ae aD
 .have:=(h.two.lt aD).2;omega
end
theorem Gr.lit{P:Nat->Prop}{w:World}{e:TypeId}{z n:Nat}{cs:Array Value}{l:List D}(hl:l.length=n)(T:cs.size=n*z)(hn:n<=1000000)(aQ:D.aJ w (λb=>P b/\b<w.heap.size) l cs.toList):
  Gr P w.heap.size e z (w.alloc (.cells cs e)) (some ⟨w.heap.size,0,none⟩) n n l:=by
 refine⟨hl,cs.toList,World.ownsRow_lit w _ n (Lb _) (by unfold maxLen;omega) T,?_⟩;refine D.bQ (λb O=>⟨O.1,by have:=O.2;simp;omega,λhc=>?_⟩) _ _ (D.bP (λb O=>Below.heap_alloc w _ b O.2) _ _ aQ);simp[Value.ownBlock] at hc;have:=O.2;omega
def rT(g:Nat):World->Nat->List Value->World
 | V,_,[]=>V
 | V,i,v::vs=>rT g (V.setCell ⟨g,i,none⟩ v) (i+1) vs
def kq:Array Value->Nat->List Value->Array Value
 | cs,_,[]=>cs
 | cs,i,v::vs=>kq (cs.setIfInBounds i v) (i+1) vs
theorem mw:∀(vs:List Value) (i:Nat) (cs:Array Value),i+vs.length<=cs.size->(kq cs i vs).toList=cs.toList.take i++vs++cs.toList.drop (i+vs.length)
 | [],i,cs,_=>by simp[kq]
 | v::vs,i,cs,h=>by
  simp only[Lo] at h;rw[kq,mw vs (i+1) _ (by simp;omega),Array.toList_setIfInBounds];have ak:i<cs.toList.length:=by simp;omega
  rw[List.take_succ_eq_append_getElem (by simpa using ak),List.take_set_of_le (Lb _),List.drop_set_of_lt ab];simp[Nat.add_assoc,Nat.add_comm 1]
theorem ll{g:Nat}{t:TypeId}:∀(vs:List Value) (i:Nat) (V:World) (cs:Array Value),an V g t cs->an (rT g V i vs) g t (kq cs i vs)
 | [],_,_,_,h=>h
 | _::vs,i,_,_,h=>ll vs (i+1) _ _ (h.aD i _)
theorem kL{g:Nat}:∀(vs:List Value) (i:Nat) (V:World),Fr (λb=>b=g) V (rT g V i vs)
 | [],_,_=>LL
 | _::vs,i,_=>Fr.trans ((Fr.refl (λb=>b=g) _).setCell (.inl rfl) _) (kL vs (i+1) _)
theorem cm{w X V:World}{g:Nat}{t:TypeId}{cs:Array Value}(vs:List Value)(hs:cs.size=vs.length)(aN:an V g t cs)(aE:Ext w V)(aK:w.heap.size<=g)(hX:rT g V 0 vs=X):
  an X g t vs.toArray/\Ext w X/\Fr (λb=>b=g) V X:=by
 subst hX;have J:=kL (g:=g) vs 0 V;refine⟨?_,Fr.low (M:=λb=>b=g) (Fr.trans (Fr.mono aE λ_ h=>h.elim) J) λk ai=>by subst ai;exact aK,J⟩;have ae:=ll vs 0 V cs aN;have aD:kq cs 0 vs=vs.toArray:=by
  apply Array.toList_inj.1
  rw[mw vs 0 cs ab];simp;omega
 rwa [aD] at ae
section
variable {P:Program} {f:Nat->Prop} {B:Nat} {e t:TypeId} {z:Value} {size bytes:Nat}
theorem eX{Q:Exit->Act->World->Prop}(bp:ca P t e z size bytes)(s x:Operand)
  (bl:o.op=.call {callee:=.builtin .append,args:=#[s,x],argTypes:=#[t,t]})
  {A:LP} {n c g:Nat} {l:List D} (h0:Gr f B e size S A n c l) {d:D} {cs:Array Value} {i:TypeId} (aN:an S g i cs) (hd:d.rep S (lu f S (.slice A n c)) cs.toList)
  (hs:a.eval s=.slice A n c) (hx:a.eval x=.slice (some ⟨g,0,none⟩) 1 1) (T:cs.size=size)
  (y:(n+1)*bytes<=140737488355328) (C:n+1<=140737488355328) (r:B<=S.heap.size)
  (h:∀I aA ac,Gr f B e size ac I (n+1) aA (l++[d])->Fr (λb=>(Value.slice A n c).ownBlock=some b) S ac->dp S A n c I (n+1) aA->n+1<=aA->K (a.put o.dst (.slice I (n+1) aA)) ac):o.wp P a S K Q:=by
 obtain⟨hl,xs,ae,aD⟩:=h0;have av:Src S size (some ⟨g,0,none⟩) 1 cs.toList:=⟨by simpa using T,D.tm _ _ hd,λ_=>⟨g,0,rfl,λj u bd=>by
  rw[Lt,aN.cell];simpa using bd⟩⟩
 refine kf _ bp s x bl B _ n xs hs ae _ 1 1 cs.toList hx av y C r (λh=>nomatch h) λG ac bJ aZ H=>?_;obtain⟨I,aA,rfl,hc,_⟩:=bx bJ;refine h I aA ac (Gr.snoc hl ae aD hd (s:=S.heap.size) (Lb _) bJ aZ H) (LL.grown aZ λg aK=>.inl aK) (λb O=>?_) hc;exact zK
theorem xk{Q:Exit->Act->World->Prop}(bp:ca P t e z size bytes)(s x:Operand)
  (bl:o.op=.call {callee:=.builtin .append,args:=#[s,x],argTypes:=#[t,t]})
  {A A2:LP} {n c m c2:Nat} {l k:List D} {a2:List Value} (h0:Gr f B e size S A n c l) (aQ:D.aJ S (lu f S (.slice A n c)) k a2) (ai:k.length=m) (av:Src S size A2 m a2) (hn:A2=none->m=0)
  (hs:a.eval s=.slice A n c) (hx:a.eval x=.slice A2 m c2)
  (y:(n+m)*bytes<=140737488355328) (C:n+m<=140737488355328) (r:B<=S.heap.size)
  (h:∀I aA ac,Gr f B e size ac I (n+m) aA (l++k)->Fr (λb=>(Value.slice A n c).ownBlock=some b) S ac->dp S A n c I (n+m) aA->n+m<=aA->K (a.put o.dst (.slice I (n+m) aA)) ac):o.wp P a S K Q:=by
 obtain⟨hl,xs,ae,aD⟩:=h0;refine kf _ bp s x bl B _ n xs hs ae _ m c2 a2 hx av y C r hn λG ac bJ aZ H=>?_;obtain⟨I,aA,rfl,hc,_⟩:=bx bJ;refine h I aA ac (Gr.G0 hl ai ae aD aQ (s:=S.heap.size) (Lb _) bJ aZ H) (LL.grown aZ λg aK=>.inl aK) (λb O=>?_) hc;exact zK
theorem q0{ops:Array Oper}{rest:List Oper}{Q:Exit->Act->World->Prop}(bp:ca P t e z size bytes)(i:o.guard=none)(s x:Operand)
  (bl:o.op=.call {callee:=.builtin .append,args:=#[s,x],argTypes:=#[t,t]})
  {A A2:LP} {n c m c2:Nat} {l k:List D} {a2:List Value} (h0:Gr f B e size S A n c l) (aQ:D.aJ S (lu f S (.slice A n c)) k a2) (ai:k.length=m) (av:Src S size A2 m a2) (hn:A2=none->m=0)
  (hs:a.eval s=.slice A n c) (hx:a.eval x=.slice A2 m c2)
  (y:(n+m)*bytes<=140737488355328) (C:n+m<=140737488355328) (r:B<=S.heap.size)
  (h:∀I aA ac,Gr f B e size ac I (n+m) aA (l++k)->Fr (λb=>(Value.slice A n c).ownBlock=some b) S ac->dp S A n c I (n+m) aA->n+m<=aA->wpList P ops Q rest (a.put o.dst (.slice I (n+m) aA)) ac):wpList P ops Q (o::rest) a S:=
 wpList_plain i λ_ hK=>xk bp s x bl h0 aQ ai av hn hs hx y C r λI aA ac b9 g2 cI cL=>hK _ _ (h I aA ac b9 g2 cI cL)
theorem jr{Q:Exit->Act->World->Prop}(bp:ca P t e z size bytes)(s x:Operand)
  (bl:o.op=.call {callee:=.builtin .append,args:=#[s,x],argTypes:=#[t,t]})
  {A2:LP} {g m c2:Nat} {k:List D} {a2:List Value} (h0:Gr f B e size S (some ⟨g,0,none⟩) 0 0 []) (aQ:D.aJ S (lu f S (.slice (some ⟨g,0,none⟩) 0 0)) k a2) (ai:k.length=m) (av:Src S size A2 m a2) (hn:A2=none->m=0)
  (hs:a.eval s=.slice (some ⟨g,0,none⟩) 0 0) (hx:a.eval x=.slice A2 m c2)
  (y:m*bytes<=140737488355328) (C:m<=140737488355328) (r:B<=S.heap.size)
  (h:∀I aA ac,Gr f B e size ac I m aA k->Fr (λb=>b=g) S ac->(∀b,(Value.slice I m aA).ownBlock=some b->b=g\/S.heap.size<=b)->m<=aA->K (a.put o.dst (.slice I m aA)) ac):o.wp P a S K Q:=by
 refine xk bp s x bl h0 aQ ai av hn hs hx (by rw[Lt];exact y) ab r λI aA ac b9 g2 cI cL=>?_;simp only[Lt,LD] at b9 cI cL ⊢;exact h I aA ac b9 (g2.mono λb O=>by simp[Value.ownBlock] at O;exact O.symm) (λb O=>(cI b O).imp (λh=>by simp[Value.ownBlock] at h;exact h.symm) id) cL
end
section
variable {P:Program} {ops:Array Oper} {Q:Exit->Act->World->Prop} {R:World->World->Prop} {tails:List Nat}
theorem iL{δ:Type}{aa:α->β->γ->δ->Act}{C:α->β->γ->δ->World->Prop}(h:(∀x y z u V,C x y z u V->cQ P ops Q R tails rest (aa x y z u) V)->G)(key:∀x y z u V,C x y z u V->cQ P ops Q R tails rest (aa x y z u) V):G:=h key
theorem iK{aa:α->β->γ->Act}{C:α->β->γ->World->Prop}(h:(∀x y z V,C x y z V->cQ P ops Q R tails rest (aa x y z) V)->G)(key:∀x y z V,C x y z V->cQ P ops Q R tails rest (aa x y z) V):G:=h key
theorem qW{aa:α->β->Act}{C:α->β->World->Prop}(h:(∀x y V,C x y V->cQ P ops Q R tails rest (aa x y) V)->G)(key:∀x y V,C x y V->cQ P ops Q R tails rest (aa x y) V):G:=h key
theorem xe{aa:α->Act}{C:α->World->Prop}(h:(∀x V,C x V->cQ P ops Q R tails rest (aa x) V)->G)(key:∀x V,C x V->cQ P ops Q R tails rest (aa x) V):G:=h key
end
theorem Ht{w a b:World}(ae:Ext w a)(aD:Ext w b)(hs:a.heap.size=w.heap.size+1)(bv:a.heap.size<=b.heap.size):Fr (λk=>k=w.heap.size) a b:=
 ⟨aD.os.trans ae.os.symm,aD.tape.trans ae.tape.symm,aD.output.trans ae.output.symm,bv,λk ai hn=>(aD.block k ab λh=>h).trans (ae.block k ab λh=>h).symm⟩
theorem wj{P:Nat->Prop}{w ac:World}{v:Value}(h:d.rep w (lu P w v) cs)(he:Ext w ac):d.rep ac (lu P ac v) cs:=
 D.aE (λb O=>⟨O.1,Lc O.2.1 he.size,O.2.2⟩) _ _ (D.aP (λb O=>he.block b O.2.1 λh=>h) _ _ h)
end Go.Proofs.YtflecliffjbleaaGreat
