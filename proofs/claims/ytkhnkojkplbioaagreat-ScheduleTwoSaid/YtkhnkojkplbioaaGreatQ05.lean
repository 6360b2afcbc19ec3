/- Part 5 of the proof. No condition of its own. -/
import Derived.Test.YtkhnkojkplbioaaGreatQ04
namespace Go.Proofs.YtkhnkojkplbioaaGreat
open Go.RowKit Go.Proofs.Tryz
set_option maxRecDepth 1000000
set_option maxHeartbeats 25600000
set_option linter.unusedVariables false
variable{s:ByteArray}{d:D}{l m:List D}{cs:List Value}{B k n sz:Nat}{A:L3}{α:Type}
def bp:VE->D
 | .num n=>.st [.i 1,.i n,.s ⟨#[]⟩,.sl []]
 | .g7 s=>.st [.i 2,.i 0,.s s,.sl []]
 | .loc k=>.st [.i 18,.i k,.s ⟨#[]⟩,.sl []]
 | .iF k=>.st [.i 19,.i k,.s ⟨#[]⟩,.sl []]
 | .un op x=>.st [.i op,.i 0,.s ⟨#[]⟩,.sl [bp x]]
 | .bin op x y=>.st [.i op,.i 0,.s ⟨#[]⟩,.sl [bp x,bp y]]
def jR:D:=.st [.i 0,.i 0,.s ⟨#[]⟩,.sl []]
def oO:Option VE->D
 | none=>jR
 | some x=>bp x
def VE.bg:VE->Int
 | .num _=>1
 | .g7 _=>2
 | .loc _=>18
 | .iF _=>19
 | .un op _=>op
 | .bin op _ _=>op
def VE.numOf:VE->Int
 | .num n=>n
 | .loc k=>k
 | .iF k=>k
 | _=>0
def VE.bA:VE->ByteArray
 | .g7 s=>s
 | _=>⟨#[]⟩
def VE.args:VE->List VE
 | .un _ x=>[x]
 | .bin _ x y=>[x,y]
 | _=>[]
theorem x6(x:VE):bp x=.st [.i x.bg,.i x.numOf,.s x.bA,.sl (x.args.map bp)]:=by
 cases x<;>simp[bp,VE.bg,VE.numOf,VE.bA,VE.args]
theorem db(x:VE):(bp x).sz=4:=by rw[x6];rfl
section
variable {w:World} {P:Nat->Prop}
theorem aP:D.aQ w P [] cs↔cs=[]:=by simp only[D.aQ]
theorem bq{n:Int}:D.aQ w P (.i n::l) cs↔∃y,cs=.int .i64 n::y/\D.aQ w P l y:=by
 exact DM
theorem fv{n:Bool}:D.aQ w P (.b n::l) cs↔∃y,cs=.bool n::y/\D.aQ w P l y:=by
 exact DM
theorem ct{n:ByteArray}:D.aQ w P (.s n::l) cs↔∃y,cs=.string n::y/\D.aQ w P l y:=by
 exact DM
theorem aN:D.aQ w P (.sl m::l) cs↔∃A n c y,cs=.slice A n c::y/\n<=c/\Sl w P A n m/\D.aQ w P l y:=by
 constructor
 .intro h;simp only[D.aQ] at h;obtain⟨x,y,rfl,hx,h⟩:=h;obtain⟨A,c,n,rfl,hc,hs⟩:=D.tE.1 hx;exact⟨A,n,c,y,rfl,hc,hs,h⟩
 .rintro⟨A,n,c,y,rfl,hc,hs,h⟩;simp only[D.aQ];exact⟨_,y,rfl,D.tE.2 ⟨A,c,n,rfl,hc,hs⟩,h⟩
theorem bM:(D.st m).rep w P cs↔D.aQ w P m cs:=by simp only[D.rep]
theorem a5{x:VE}:(bp x).rep w P cs↔∃A n c,cs=[.int .i64 x.bg,.int .i64 x.numOf,.string x.bA,.slice A n c]/\n<=c/\Sl w P A n (x.args.map bp):=by
 rw[x6,bM,bq];constructor
 .rintro⟨y,rfl,h⟩;obtain⟨cG,rfl,ac⟩:=bq.1 h;obtain⟨ch,rfl,au⟩:=ct.1 ac;obtain⟨A,n,c,bA,rfl,hc,hs,aY⟩:=aN.1 au;exact sI
 .rintro⟨A,n,c,rfl,hc,hs⟩;exact⟨_,rfl,bq.2 ⟨_,rfl,ct.2 ⟨_,rfl,aN.2 ⟨A,n,c,[],rfl,hc,hs,aP.2 rfl⟩⟩⟩⟩
theorem fj:jR.rep w P cs↔∃A c,cs=[.int .i64 0,.int .i64 0,.string ⟨#[]⟩,.slice A 0 c]:=by
 unfold jR;rw[bM,bq];constructor
 .rintro⟨y,rfl,h⟩;obtain⟨cG,rfl,ac⟩:=bq.1 h;obtain⟨ch,rfl,au⟩:=ct.1 ac;obtain⟨A,n,c,bA,rfl,hc,hs,aY⟩:=aN.1 au;rw[aP] at aY;subst aY;obtain rfl:n=0:=hs.1.symm;exact⟨A,c,rfl⟩
 .rintro⟨A,c,rfl⟩;exact⟨_,rfl,bq.2 ⟨_,rfl,ct.2 ⟨_,rfl,aN.2 ⟨A,0,c,[],rfl,LJ _,Sl.bR A,aP.2 rfl⟩⟩⟩⟩
theorem Sl.EI(h:Sl w P A 1 [d])(bv:d.sz=4):∃b o bx Z a4 E,A=some ⟨b,o,none⟩/\P b/\d.rep w P [bx,Z,a4,E]/\
  w.cell? ⟨b,o,none⟩=some bx/\w.cell? ⟨b,o+1,none⟩=some Z/\w.cell? ⟨b,o+2,none⟩=some a4/\w.cell? ⟨b,o+3,none⟩=some E:=by
 obtain⟨b,o,a,cs,aX,O,hd,ba,hl,hc⟩:=h.at_ (z:=4) (k:=0) (λe he=>by simp at he;subst he;exact bv) ad;simp at hd;subst hd
 match cs,hl with
 | [bx,Z,a4,E],_=>
  have h0:=hc 0 bx rfl;have ac:=hc 1 Z rfl;have au:=hc 2 a4 rfl;have aY:=hc 3 E rfl;simp only[Nat.zero_mul,Lu] at h0 ac au aY;exact⟨b,o,bx,Z,a4,E,aX,O,ba,h0,ac,au,aY⟩
theorem Sl.Kg{e:D}(h:Sl w P A 2 [d,e])(bv:d.sz=4)(cx:e.sz=4):∃b o bx Z a4 E b2 cG ch bA,A=some ⟨b,o,none⟩/\P b/\d.rep w P [bx,Z,a4,E]/\e.rep w P [b2,cG,ch,bA]/\
  w.cell? ⟨b,o,none⟩=some bx/\w.cell? ⟨b,o+1,none⟩=some Z/\w.cell? ⟨b,o+2,none⟩=some a4/\w.cell? ⟨b,o+3,none⟩=some E/\
  w.cell? ⟨b,o+4,none⟩=some b2/\w.cell? ⟨b,o+5,none⟩=some cG/\w.cell? ⟨b,o+6,none⟩=some ch/\w.cell? ⟨b,o+7,none⟩=some bA:=by
 have s:∀x∈[d,e],x.sz=4:=λx hx=>by
  simp at hx;rcases hx with rfl|rfl<;>assumption
 obtain⟨b,o,a,cs,aX,O,hd,ba,hl,hc⟩:=h.at_ (z:=4) (k:=0) s ad;obtain⟨K,M,F,f,am,_,he,I,aB,aZ⟩:=h.at_ (z:=4) (k:=1) s ad;rw[aX] at am;injection am with am;injection am with aT cK;subst aT cK;simp at hd he;subst hd he
 match cs,hl,f,aB with
 | [bx,Z,a4,E],_,[b2,cG,ch,bA],_=>
  have h0:=hc 0 bx rfl;have ac:=hc 1 Z rfl;have au:=hc 2 a4 rfl;have aY:=hc 3 E rfl;have c8:=aZ 0 b2 rfl;have cv:=aZ 1 cG rfl;have bS:=aZ 2 ch rfl;have cW:=aZ 3 bA rfl;simp only[Nat.zero_mul,Lu,Nat.one_mul,Nat.add_assoc,Nat.reduceAdd] at h0 ac au aY c8 cv bS cW;exact⟨b,o,bx,Z,a4,E,b2,cG,ch,bA,aX,O,ba,I,h0,ac,au,aY,c8,cv,bS,cW⟩
theorem kD:∀(x:VE) (cs:List Value),(bp x).rep w P cs->x.rep w P cs
 | .num n,cs,h=>by
  obtain⟨A,n,c,rfl,_,hs⟩:=a5.1 h;obtain rfl:n=0:=hs.1.symm
  exact⟨_,_,_,rfl⟩
 | .g7 s,cs,h=>by
  obtain⟨A,n,c,rfl,_,hs⟩:=a5.1 h;obtain rfl:n=0:=hs.1.symm
  exact⟨_,_,_,rfl⟩
 | .loc k,cs,h=>by
  obtain⟨A,n,c,rfl,_,hs⟩:=a5.1 h;obtain rfl:n=0:=hs.1.symm
  exact⟨_,_,_,rfl⟩
 | .iF k,cs,h=>by
  obtain⟨A,n,c,rfl,_,hs⟩:=a5.1 h;obtain rfl:n=0:=hs.1.symm
  exact⟨_,_,_,rfl⟩
 | .un op x,cs,h=>by
  obtain⟨A,n,c,rfl,_,hs⟩:=a5.1 h;obtain rfl:n=1:=hs.1.symm;obtain⟨b,o,bx,Z,a4,E,rfl,O,ba,c0,c1,c2,c3⟩:=Sl.EI hs (db x)
  exact⟨_,_,b,o,c,bx,Z,a4,E,rfl,O,kD x _ ba,c0,c1,c2,c3⟩
 | .bin op x y,cs,h=>by
  obtain⟨A,n,c,rfl,_,hs⟩:=a5.1 h;obtain rfl:n=2:=hs.1.symm;obtain⟨b,o,bx,Z,a4,E,b2,cG,ch,bA,rfl,O,ba,I,c0,c1,c2,c3,d0,d1,d2,d3⟩:=Sl.Kg hs (db x) (db y);exact⟨_,_,b,o,c,bx,Z,a4,E,b2,cG,ch,bA,rfl,O,kD x _ ba,kD y _ I,c0,c1,c2,c3,d0,d1,d2,d3⟩
end
def kG(r:eS):D:=.st [.s r.name,.sl (r.idx.toList.map bp)]
def fY:D:=.st [.s ⟨#[]⟩,.sl []]
def gN:ds->D
 | .mx r=>.st [.b true,kG r,jR]
 | .ex e=>.st [.b false,fY,bp e]
def gI(kind:Int)(name:ByteArray)(e r:D)(args th el:List D):D:=.st [.i kind,.s name,e,r,.sl args,.sl th,.sl el]
def c6:an->List D
 | .nil=>[]
 | .set v n e rest=>gI (if v then 1 else 2) n (bp e) fY [] [] []::c6 rest
 | .call g n aV rest=>gI (if g then 4 else 3) n jR fY (aV.map gN) [] []::c6 rest
 | .lock u r rest=>gI (if u then 6 else 5) ⟨#[]⟩ jR (kG r) [] [] []::c6 rest
 | .ite e th el rest=>gI 7 ⟨#[]⟩ (bp e) fY [] (c6 th) (c6 el)::c6 rest
 | .gz e th rest=>gI 8 ⟨#[]⟩ (bp e) fY [] (c6 th) []::c6 rest
 | .ret rest=>gI 9 ⟨#[]⟩ jR fY [] [] []::c6 rest
def dv(p:ByteArray×Bool):D:=.st [.s p.1,.b p.2]
def du(f:aK):D:=.st [.s f.name,.sl (f.params.map dv),.sl (c6 f.body)]
def iD(g:ByteArray×Int):D:=.st [.s g.1,.i g.2]
def eD(m:bD):D:=.st [.s m.name,.b m.re,.i m.size]
def dk(p:bN):D:=.st [.b p.param,.i p.index,.sl (p.at_.toList.map bp)]
def ej(x:az):D:=.st [.i x.op,.i x.target,.b x.c7,oO x.expr,dk x.place,.sl (x.ints.map bp),.sl (x.places.map dk)]
def gi(p:cM):D:=.st [.s p.name,.i p.ints,.i p.au,.i p.locals,.sl (p.code.map ej)]
def uw(u:ay):D:=.st [.sl (u.globals.map D.i),.sl (u.af.map eD),.sl (u.procs.map gi),.i u.main]
def ew(f:ak):D:=.st [.i f.proc,.i f.pc,.sl (f.ints.map D.i),.sl (f.au.map D.i)]
def jW(t:List ak):D:=.st [.sl (t.map ew)]
def lD(h:bV):D:=.st [.i h.owner,.i h.depth]
theorem Sl.JB{enc:α->D}{f:α->List Value}(J:∀(w:World) (P:Nat->Prop) (x:α) (cs:List Value),(enc x).rep w P cs->cs=f x)(bv:∀x,(enc x).sz=sz)
  {w:World} {A:L3} {n:Nat} {l:List α} (h:Sl w (av w) A n (l.map enc)):cp (EF f) sz w w.heap.size A n l:=by
 have hl:l.length=n:=by rw[<-h.1,Lo]
 refine⟨hl,λhn=>?_⟩;obtain⟨b,o,aX,O⟩:=h.some_ hn;refine⟨b,o,aX,O,λk x hx=>?_⟩;have ap:k<n:=by have:=(List.getElem?_eq_some_iff.1 hx).1;omega
 obtain⟨K,M,y,cs,am,_,bb,ba,a9,hc⟩:=h.g6 bv ap;rw[aX] at am;injection am with am;injection am with ac au;subst ac au;rw[hx] at bb;injection bb with bb;subst bb;exact⟨cs,J _ _ _ _ ba,a9,hc⟩
theorem m4{α:Type}{enc:α->D}{f:α->List Value}{w:World}{P:Nat->Prop}(J:∀x,(enc x).rep w P (f x)):∀l:List α,D.aQ w P (l.map enc) (l.flatMap f)
 | []=>by simp only[LK,D.aQ,List.flatMap_nil]
 | x::l=>by
  rw[Lq,LH];simp only[D.aQ];exact⟨_,_,rfl,J x,m4 J l⟩
theorem cp.sl{enc:α->D}{f:α->List Value}{w:World}{P:Nat->Prop}{l:List α}(J:∀x,(enc x).rep w P (f x))(hs:∀x,(f x).length=sz)(h0:0<sz)
  (h:cp (EF f) sz w B A n l) (a1:∀b,b<B->P b):Sl w P A n (l.map enc):=by
 refine⟨by rw[Lo,h.1],λhn=>?_⟩;obtain⟨b,o,aX,O,hc⟩:=h.2 hn;refine⟨b,o,l.flatMap f,aX,a1 b O,m4 J l,λj u bi=>?_⟩;have bq:=(List.getElem?_eq_some_iff.1 bi).1;rw[gp f sz l λx _=>hs x] at bq;have bH:j / sz<l.length:=by rw[Nat.div_lt_iff_lt_mul h0];exact bq
 have hx:l[j / sz]?=some (l[j / sz]'bH):=List.getElem?_eq_getElem bH;have d:=Nat.mod_lt j h0;have a:j / sz*sz+j % sz=j:=Nat.div_add_mod' j sz;have cg:=fL f sz l (λx _=>hs x) _ _ hx (j % sz) d;rw[a,bi] at cg;obtain⟨cs,he,_,c⟩:=hc _ _ hx;rw[EF] at he;subst he;have:=c _ _ cg.symm
 rwa [Nat.add_assoc,a] at this
theorem yn{w:World}{P:Nat->Prop}{x:Int}:(D.i x).rep w P cs↔cs=cP x:=by simp only[D.rep,cP]
theorem Sl.ints{w:World}{l:List Int}(h:Sl w (av w) A n (l.map D.i)):cp (EF cP) 1 w w.heap.size A n l:=Sl.JB (enc:=D.i) (f:=cP) (λ_ _ _ _=>yn.1) (λ_=>rfl) h
theorem cp.ints{w:World}{P:Nat->Prop}{l:List Int}(h:cp (EF cP) 1 w B A n l)(a1:∀b,b<B->P b):Sl w P A n (l.map D.i):=cp.sl (enc:=D.i) (f:=cP) (λ_=>yn.2 rfl) (λ_=>rfl) (by decide) h a1
theorem fh{w:World}{P:Nat->Prop}{m:bD}:(eD m).rep w P cs↔cs=gg m:=by
 unfold eD;rw[bM,ct];constructor
 .rintro⟨y,rfl,h⟩;rw[fv] at h;exact z6
 .rintro rfl;exact⟨_,rfl,fv.2 ⟨_,rfl,bq.2 ⟨_,rfl,aP.2 rfl⟩⟩⟩
theorem ve{w:World}{P:Nat->Prop}{m:bV}:(lD m).rep w P cs↔cs=bK m:=by
 unfold lD;rw[bM,bq];exact DK
theorem Sl.mT{w:World}{l:List bD}(h:Sl w (av w) A n (l.map eD)):cp (EF gg) 3 w w.heap.size A n l:=Sl.JB (enc:=eD) (f:=gg) (λ_ _ _ _=>fh.1) (λ_=>rfl) h
theorem cp.mT{w:World}{P:Nat->Prop}{l:List bD}(h:cp (EF gg) 3 w B A n l)(a1:∀b,b<B->P b):Sl w P A n (l.map eD):=cp.sl (enc:=eD) (f:=gg) (λ_=>fh.2 rfl) (λ_=>rfl) (by decide) h a1
theorem Sl.holds{w:World}{l:List bV}(h:Sl w (av w) A n (l.map lD)):cp (EF bK) 2 w w.heap.size A n l:=Sl.JB (enc:=lD) (f:=bK) (λ_ _ _ _=>ve.1) (λ_=>rfl) h
theorem cp.holds{w:World}{P:Nat->Prop}{l:List bV}(h:cp (EF bK) 2 w B A n l)(a1:∀b,b<B->P b):Sl w P A n (l.map lD):=cp.sl (enc:=lD) (f:=bK) (λ_=>ve.2 rfl) (λ_=>rfl) (by decide) h a1
def pz(c:UInt8):Bool:=c == 32 || c == 9 || c == 10 || c == 13
def b1(c:UInt8):Bool:=(decide (97<=c.toNat) && decide (c.toNat<=122)) || (decide (65<=c.toNat) && decide (c.toNat<=90)) || decide (c.toNat=95)
def bF(c:UInt8):Bool:=decide (48<=c.toNat) && decide (c.toNat<=57)
def cf(c:UInt8):Bool:=b1 c || bF c
def tT:List (List UInt8):=[[118,97,114],[109,117,116,101,120],[114,109,117,116,101,120],[102,117,110,99],[108,111,99,107],[117,110,108,111,99,107],[103,111],[105,102],[101,108,115,101],[119,104,105,108,101],[114,101,116,117,114,110]]
def dI(s:List UInt8):Bool:=decide (s∈tT)
def bH(s:List UInt8):Bool:=(match s with|[]=>false|c::l=>b1 c && l.all cf) && decide (s.length<=16) && !dI s
def fw:List (List UInt8):=[[60,61],[62,61],[61,61],[33,61],[38,38],[124,124]]
def eP:List (List UInt8):=[[40],[41],[123],[125],[91],[93],[44],[59],[61],[43],[45],[42],[47],[37],[60],[62],[33]]
def e5(l:List UInt8):Nat:=if decide (l.take 2∈fw) && decide (2<=l.length) then 2 else if decide (l.take 1∈eP) then 1 else 0
def aU:Bool->List UInt8->List UInt8
 | _,[]=>[]
 | true,c::l=>if c=10 then aU false l else aU true l
 | false,c::l=>if pz c then aU false l else if c=47/\l.head?=some 47 then aU true l else c::l
theorem jN:∀(b:Bool) (l:List UInt8),(aU b l).length<=l.length
 | _,[]=>by unfold aU;simp
 | true,c::l=>by
  unfold aU;split
  .have:=jN false l;simp;omega
  .have:=jN true l;simp;omega
 | false,c::l=>by
  unfold aU;split
  .have:=jN false l;simp;omega
  .split
   .have:=jN true l;simp;omega
   .simp
def iL:Int->List UInt8->Int
 | n,[]=>n
 | n,c::l=>if n > (9223372036854775807 - ((c.toNat:Int) - 48)) / 10 then -1 else iL (10*n+((c.toNat:Int) - 48)) l
def qy(l:List UInt8):Int:=iL 0 l
structure Tok where
 kind:Int
 text:List UInt8
 num:Int
 pos:Int
def fN:Nat->Nat->List UInt8->List Tok->List Tok×Int×Int
 | 0,_,_,_=>([],0,1)
 | f+1,n,l,acc=>
  match aU false l with
  | []=>(acc++[⟨5,[],0,n⟩],n,0)
  | c::r=>
   let at_:Int:=(n:Int) - (r.length+1)
   if b1 c then
    let t:=(c::r).takeWhile cf
    if !dI t && decide (16<t.length) then ([],at_,3)
    else if acc.length=4000 then ([],at_,3)
    else fN f n ((c::r).dropWhile cf) (acc++[⟨if dI t then 3 else 1,t,0,at_⟩])
   else if bF c then
    let t:=(c::r).takeWhile bF
    if qy t<0 then ([],at_,2)
    else if acc.length=4000 then ([],at_,3)
    else fN f n ((c::r).dropWhile bF) (acc++[⟨2,t,qy t,at_⟩])
   else if e5 (c::r)=0 then ([],at_,1)
   else if acc.length=4000 then ([],at_,3)
   else fN f n ((c::r).drop (e5 (c::r))) (acc++[⟨4,(c::r).take (e5 (c::r)),0,at_⟩])
def dw(l:List UInt8):List Tok×Int×Int:=if 262144<l.length then ([],262144,3) else fN (l.length+1) l.length l []
inductive Atom where
 | ws (c:UInt8)
 | word (s:List UInt8)
 | num (s:List UInt8)
 | sg (s:List UInt8)
def Atom.bytes:Atom->List UInt8
 | .ws c=>[c]
 | .word s=>s
 | .num s=>s
 | .sg s=>s
def Atom.fZ:Atom->Prop
 | .ws c=>pz c=true
 | .word s=>(∃c l,s=c::l/\b1 c=true/\l.all cf=true)/\(dI s=true\/s.length<=16)
 | .num s=>(∃c l,s=c::l)/\s.all bF=true/\0<=qy s
 | .sg s=>s∈fw\/s∈eP
def Atom.kt:Atom->Bool
 | .word _=>true
 | .num _=>true
 | _=>false
def Atom.head:Atom->Option UInt8
 | .ws c=>some c
 | .word s=>s.head?
 | .num s=>s.head?
 | .sg s=>s.head?
def Atom.fits(a b:Atom):Prop:=
 (a.kt=true->b.kt=false)/\∀s,a=.sg s->s∈eP->∀c,b.head=some c->(s++[c])∉fw/\¬(s=[47]/\c=47)
def Atom.count:List Atom->Nat
 | []=>0
 | .ws _::l=>Atom.count l
 | _::l=>Atom.count l+1
def Atom.chain:List Atom->Prop
 | []=>True
 | [a]=>a.fZ
 | a::b::l=>a.fZ/\a.fits b/\Atom.chain (b::l)
theorem xC(c:UInt8)(h:pz c=true):b1 c=false/\bF c=false:=by
 simp only[pz,Bool.or_eq_true,beq_iff_eq] at h;rcases h with((rfl|rfl)|rfl)|rfl<;>decide
theorem wJ(c:UInt8)(h:b1 c=true):pz c=false/\c≠47:=by
 refine⟨?_,?_⟩
 .cases hw:pz c with
  | false=>rfl
  | true=>have:=(xC c hw).1;rw[h] at this;cases this
 .rintro rfl;revert h;decide
theorem yN(c:UInt8)(h:bF c=true):pz c=false/\c≠47/\b1 c=false:=by
 refine⟨?_,?_,?_⟩
 .cases hw:pz c with
  | false=>rfl
  | true=>have:=(xC c hw).2;rw[h] at this;cases this
 .rintro rfl;revert h;decide
 .simp only[bF,Lw,LR] at h;simp only[b1,Bool.or_eq_false_iff,Bool.and_eq_false_iff,decide_eq_false_iff_not];omega
theorem g9{p:α->Bool}{s r:List α}(h:s.all p=true)(ba:∀c,r.head?=some c->p c=false):(s++r).takeWhile p=s/\(s++r).dropWhile p=r:=by
 induction s with
 | nil=>
  cases r with
  | nil=>simp
  | cons c r=>have:=ba c rfl;simp[this]
 | cons a s ao=>
  simp only[List.all_cons,Lw] at h;have:=ao h.2;simp[h.1,this]
theorem iG:∀(e:List Atom) (f n:Nat) (acc:List Tok),Atom.chain e->(e.flatMap Atom.bytes).length<f->acc.length+Atom.count e<=4000->(fN f n (e.flatMap Atom.bytes) acc).2.2=0
 | [],f,n,acc,_,J,_=>by
  cases f with
  | zero=>omega
  | succ f=>simp[fN,aU]
 | a::e,f,n,acc,hc,J,hn=>by
  have a9:a.fZ:=by cases e<;>simp only[Atom.chain] at hc<;>first|exact hc|exact hc.1
  have q:Atom.chain e:=by
   cases e with
   | nil=>trivial
   | cons b l=>exact hc.2.2
  have i:∀b l,e=b::l->a.fits b:=λb l h=>by subst h;exact hc.2.1
  have u:∀c,(e.flatMap Atom.bytes).head?=some c->∃b l,e=b::l/\b.head=some c/\b.fZ:=by
   intro c h
   cases e with
   | nil=>simp at h
   | cons b l=>
    have j:b.fZ:=by cases l<;>simp only[Atom.chain] at q<;>first|exact q|exact q.1
    refine⟨b,l,rfl,?_,j⟩
    cases b with
    | ws d=>simpa[Atom.bytes,Atom.head] using h
    | word s=>
     obtain⟨⟨d,m,rfl,_⟩,_⟩:=j
     simpa[Atom.bytes,Atom.head] using h
    | num s=>
     obtain⟨⟨d,m,rfl⟩,_⟩:=j
     simpa[Atom.bytes,Atom.head] using h
    | sg s=>
     have:∃d m,s=d::m:=by
      cases s with
      | nil=>rcases j with h|h<;>simp[fw,eP] at h
      | cons d m=>exact⟨d,m,rfl⟩
     obtain⟨d,m,rfl⟩:=this;simpa[Atom.bytes,Atom.head] using h
  have w:∀b:Atom,b.kt=false->b.fZ->∀c,b.head=some c->cf c=false:=by
   intro b O j c hc
   cases b with
   | ws d=>
    simp only[Atom.head,LP] at hc;subst hc;have:=xC d j
    simp[cf,this.1,this.2]
   | word s=>simp[Atom.kt] at O
   | num s=>simp[Atom.kt] at O
   | sg s=>
    have key:∀s∈fw++eP,∀c,s.head?=some c->cf c=false:=by decide
    refine key s ?_ c hc;rcases j with h|h<;>simp[h]
  cases f with
  | zero=>omega
  | succ f=>
   have hl:((a::e).flatMap Atom.bytes).length=a.bytes.length+(e.flatMap Atom.bytes).length:=by rw[LH,Lm]
   cases a with
   | ws c=>
    have hw:pz c=true:=a9;have hlen:(e.flatMap Atom.bytes).length<f+1:=ad;have ao:=iG e (f+1) n acc q hlen (by simpa[Atom.count] using hn);have hs:aU false (c::e.flatMap Atom.bytes)=aU false (e.flatMap Atom.bytes):=by
     rw[aU,if_pos hw]
    simp only[LH,Atom.bytes,List.singleton_append];unfold fN at ao ⊢;rw[hs]
    exact ao
   | word s=>
    obtain⟨⟨c,l,rfl,a8,z⟩,ap⟩:=a9;have c4:=wJ c a8;have v:∀d,(e.flatMap Atom.bytes).head?=some d->cf d=false:=λd hd=>by
     obtain⟨b,l,has,O,j⟩:=u d hd;exact w b ((i b l has).1 rfl) j d O
    have o:=g9 (p:=cf) (s:=c::l) (r:=e.flatMap Atom.bytes) (by simp[z,cf,a8]) v;simp only[Lz] at o;have g:aU false (c::(l++e.flatMap Atom.bytes))=c::(l++e.flatMap Atom.bytes):=by
     rw[aU,if_neg (by simp[c4.1]),if_neg (by simp[c4.2])]
    simp only[Atom.count] at hn;have ao:=λt=>iG e f n (acc++[t]) q (by simp only[Atom.bytes,Lx] at hl;omega) (by simp;omega);simp only[LH,Atom.bytes,Lz];unfold fN;simp only[g,a8,if_true,o.1,o.2];rw[if_neg ?_,if_neg ad]
    .exact ao _
    .rcases ap with h|h
     .simp[h]
     .have ak:¬16<(c::l).length:=ad
      simp only[ak,decide_false,Bool.and_false,LS,not_false_eq_true]
   | num s=>
    obtain⟨⟨c,l,rfl⟩,hd,bG⟩:=a9;simp only[List.all_cons,Lw] at hd;have c4:=yN c hd.1;have v:∀d,(e.flatMap Atom.bytes).head?=some d->bF d=false:=λd hd=>by
     obtain⟨b,l,has,O,j⟩:=u d hd;have:=w b ((i b l has).1 rfl) j d O;simp only[cf,Bool.or_eq_false_iff] at this;exact this.2
    have o:=g9 (p:=bF) (s:=c::l) (r:=e.flatMap Atom.bytes) (by simp[hd]) v;simp only[Lz] at o;have g:aU false (c::(l++e.flatMap Atom.bytes))=c::(l++e.flatMap Atom.bytes):=by
     rw[aU,if_neg (by simp[c4.1]),if_neg (by simp[c4.2.1])]
    simp only[Atom.count] at hn;have ao:=λt=>iG e f n (acc++[t]) q (by simp only[Atom.bytes,Lx] at hl;omega) (by simp;omega);simp only[LH,Atom.bytes,Lz];unfold fN;simp only[g,c4.2.2,LS,if_false,hd.1,if_true,o.1,o.2];rw[if_neg ad,if_neg ad]
    exact ao _
   | sg s=>
    simp only[Atom.count] at hn;have ao:=λt=>iG e f n (acc++[t]) q (by
     have:1<=s.length:=by
      cases s with
      | nil=>rcases a9 with h|h<;>simp[fw,eP] at h
      | cons d m=>simp
     simp only[Atom.bytes] at hl;omega) (by simp;omega)
    have au:∀s∈fw,∃c d,s=[c,d]/\pz c=false/\c≠47/\b1 c=false/\bF c=false:=by
     intro s hs;simp only[fw,LC,List.not_mem_nil,or_false] at hs;rcases hs with rfl|rfl|rfl|rfl|rfl|rfl<;>exact⟨_,_,rfl,by decide,by decide,by decide,by decide⟩
    have ac:∀s∈eP,∃c,s=[c]/\pz c=false/\b1 c=false/\bF c=false:=by
     intro s hs;simp only[eP,LC,List.not_mem_nil,or_false] at hs;rcases hs with rfl|rfl|rfl|rfl|rfl|rfl|rfl|rfl|rfl|rfl|rfl|rfl|rfl|rfl|rfl|rfl|rfl<;>exact⟨_,rfl,by decide,by decide,by decide⟩
    by_cases bN:s∈fw
    .obtain⟨c,d,rfl,cv,bS,cW,H⟩:=au s bN;have g:aU false (c::d::e.flatMap Atom.bytes)=c::d::e.flatMap Atom.bytes:=by
      rw[aU,if_neg (by simp[cv]),if_neg (by simp[bS])]
     have k:e5 (c::d::e.flatMap Atom.bytes)=2:=by simp[e5,bN]
     exact zL
    .have cr:s∈eP:=a9.resolve_left bN;obtain⟨c,rfl,cv,cW,H⟩:=ac s cr;have bH:∀d,(e.flatMap Atom.bytes).head?=some d->[c,d]∉fw/\¬(c=47/\d=47):=λd hd=>by
      obtain⟨b,l,has,O,_⟩:=u d hd;have:=(i b l has).2 [c] rfl cr d O;simpa using this
     have g:aU false (c::e.flatMap Atom.bytes)=c::e.flatMap Atom.bytes:=by
      rw[aU,if_neg (by simp[cv]),if_neg ?_];rintro⟨e1,e2⟩;exact(bH 47 e2).2 ⟨e1,rfl⟩
     have k:e5 (c::e.flatMap Atom.bytes)=1:=by
      unfold e5;rw[if_neg ?_,if_pos (decide_eq_true (by simpa using cr))];intro h;simp only[Lw,LR,Lx] at h
      cases ba:e.flatMap Atom.bytes with
      | nil=>rw[ba] at h;simp at h
      | cons d r=>
       rw[ba] at h;exact(bH d (by rw[ba];rfl)).1 (by simpa using h.1)
     exact zL
theorem ma(c:UInt8)(w:World):Calls prog 141 #[.int .u8 c.toNat] w λe ab=>e=.returned (.bool (b1 c))/\w=ab:=by
 go_enter func141,ntmps141;go_wp2
 all_goals
  go_ret;refine⟨ret_bool ?_,rfl⟩;rw[Bool.eq_iff_iff];simp[b1];omega
theorem k2(c:UInt8)(w:World):Calls prog 142 #[.int .u8 c.toNat] w λe ab=>e=.returned (.bool (bF c))/\w=ab:=by
 go_enter func142,ntmps142;go_wp2
 all_goals
  go_ret;refine⟨ret_bool ?_,rfl⟩;rw[Bool.eq_iff_iff];simp[bF];omega
theorem tJ{x:ByteArray}(h:x≠s):(x.toList == s.toList)=false:=by
 refine beq_eq_false_iff_ne.2 λe=>h ?_;rw[ByteArray.ext_iff];rw[Go.Lib.toList_data,Go.Lib.toList_data] at e;exact Array.toList_inj.1 e
def hasB(l:L4)(s:ByteArray):Bool:=l.any λx=>decide (x=s)
theorem yX{l:L4}(h:∀(j:Nat) (x:ByteArray),l[j]?=some x->x≠s):hasB l s=false:=by
 unfold hasB;rw[List.any_eq_false];exact Ai
theorem yY{l:L4}{j:Nat}(h:l[j]?=some s):hasB l s=true:=by
 unfold hasB;rw[List.any_eq_true];exact⟨s,Ln h,by simp⟩
theorem pa(A:L3)(n c:Nat)(l:L4)(s:ByteArray)(w:World)(h:cp (EF oL) 1 w w.heap.size A n l)(hn:n<=1000000) :
  Calls prog 163 #[.slice A n c,.string s] w λe ab=>e=.returned (.bool (hasB l s))/\w=ab:=by
 have H:=ae h;clear h;go_enter func163,ntmps163;go_wp2
 go_loop [5] (λi=>∃k:Nat,k<=n/\i=.int .i64 k/\∀(j:Nat) (x:ByteArray),j<k->l[j]?=some x->x≠s) (λi=>n - (intOf i).toNat)
 case atStart=>exact⟨0,LJ _,rfl,λj x h=>ad⟩
 case round=>
  obtain⟨k,ap,rfl,bf⟩:=hrel;have bY:=ae bf;clear bf;by_cases al:k<n
  .obtain⟨b,o,x,rfl,O,hx,hc⟩:=H.str al;have aQ:=ae hx;clear hx;by_cases hs:x=s
   .subst hs;go_wp2;go_ret;exact⟨ret_bool (yY aQ.o).symm,rfl⟩
   .have q:=tJ hs;have bq:=ae hs;clear hs;go_wp2
    go_round
    case rel=>exact⟨k+1,ad,by go_num,λj y bi bb=>by
     by_cases z:j=k
     .subst z;rw[aQ.o] at bb;injection bb with bb;subst bb;exact bq.o
     .exact bY.o j y ad bb⟩
    case measure=>exact aH
  .have bH:k=n:=ad;have c8:=ae bH;clear bH;go_wp2;go_ret;exact⟨ret_bool (yX λj x bi=>bY.o j x (by have:=(List.getElem?_eq_some_iff.1 bi).1;have:=H.1;have:=c8.o;omega) bi).symm,rfl⟩
theorem m1(w:World)(cs:Array Value)(t:TypeId)(l:L4)(hc:cs=(l.map Value.string).toArray)(hl:l.length=n):cp (EF oL) 1 (w.alloc (.cells cs t)) (w.alloc (.cells cs t)).heap.size (some ⟨w.heap.size,0,none⟩) n l:=by
 subst hc;refine⟨hl,λ_=>⟨w.heap.size,0,rfl,by simp,λk x hx=>⟨oL x,rfl,rfl,λj v bi=>?_⟩⟩⟩;have fa:j=0/\v=.string x:=by
  exact z7
 obtain⟨rfl,rfl⟩:=fa;rw[(aq.new w t _).cell];simp[hx]
def strOf(l:List UInt8):ByteArray:=⟨l.toArray⟩
theorem mP(L:List (List UInt8))(s:ByteArray):hasB (L.map strOf) s=decide (s.data.toList∈L):=by
 unfold hasB;rw[Bool.eq_iff_iff,List.any_eq_true,LR];constructor
 .rintro⟨x,hx,he⟩;obtain⟨y,bb,rfl⟩:=LL.1 hx;simp only[LR] at he;subst he;exact bb
 .intro h;refine⟨strOf s.data.toList,LL.2 ⟨_,h,rfl⟩,?_⟩;simp[strOf]
def ir(s:ByteArray):Bool:=dI s.data.toList
theorem m6(s:ByteArray)(w:World):Calls prog 143 #[.string s] w λe ab=>e=.returned (.bool (ir s))/\Ext w ab:=by
 go_enter func143,ntmps143;go_wp2_with(fail);refine(pa _ 11 11 (tT.map strOf) s _ (m1 w _ _ _ rfl rfl) ad).mono ?_;rintro e ab ⟨rfl,rfl⟩;go_wp2;go_ret;exact⟨ret_bool (mP _ _),LW.alloc _⟩
def jJ(s:ByteArray):Bool:=bH s.data.toList
theorem r7{l:List UInt8}{x:UInt8}(hx:l[k]?=some x)(hl:b1 x=false)(ap:k=0\/bF x=false):bH l=false:=by
 cases l with
 | nil=>simp at hx
 | cons c l=>
  unfold bH;simp only[Bool.and_eq_false_iff];left;left
  cases k with
  | zero=>
   simp at hx;subst hx
   exact .inl hl
  | succ k=>
   right;rw[List.getElem?_cons_succ] at hx;have hd:=ap.resolve_left ad;rw[List.all_eq_false];exact⟨x,Ln hx,by simp[cf,hl,hd]⟩
theorem wT{l:List UInt8}(h:∀(j:Nat) (x:UInt8),l[j]?=some x->b1 x=true\/(0<j/\bF x=true)):bH l=(decide (1<=l.length) && decide (l.length<=16) && !dI l):=by
 cases l with
 | nil=>rfl
 | cons c l=>
  have h0:=(h 0 c rfl).resolve_right ad;have y:l.all cf=true:=by
   rw[List.all_eq_true];intro x hx;obtain⟨j,bi⟩:=List.getElem?_of_mem hx;have:=h (j+1) x (by rw[List.getElem?_cons_succ];exact bi);unfold cf;rcases this with ac|ac<;>simp[ac]
  unfold bH;simp[h0,y]
theorem byte_at(h:k<s.size):s.data.toList[k]?=some s[k]:=by
 rw[List.getElem?_eq_getElem (by simpa using h)];rfl
theorem hb(s:ByteArray)(w:World)(hs:s.size<=1000000):Calls prog 130 #[.string s] w λe ab=>e=.returned (.bool (jJ s))/\Ext w ab:=by
 go_enter func130,ntmps130;go_wp2
 go_loop [3] (λi=>∃k:Nat,k<=s.size/\i=.int .i64 k/\∀(j:Nat) (x:UInt8),j<k->s.data.toList[j]?=some x->b1 x=true\/(0<j/\bF x=true)) (λi=>s.size - (intOf i).toNat)
 case atStart=>exact⟨0,LJ _,rfl,λj x h=>ad⟩
 case round=>
  obtain⟨k,ap,rfl,bf⟩:=hrel;have bY:=ae bf;clear bf;by_cases al:k<s.size
  .have cX:=ae (byte_at al);have step:(b1 s[k]=true\/(0<k/\bF s[k]=true))->∀(j:Nat) (x:UInt8),j<k+1->s.data.toList[j]?=some x->b1 x=true\/(0<j/\bF x=true):=by
    intro h j x bi hx;by_cases z:j=k
    .subst z;rw[cX.o] at hx;injection hx with hx;subst hx;exact h
    .exact bY.o j x ad hx
   have bq:=ae step;clear step;go_wp2_with(fail);refine(ma s[k] w).mono ?_;rintro e ab ⟨rfl,rfl⟩;by_cases hl:b1 s[k]=true
   .rw[hl];have b8:=ae hl;clear hl;go_wp2
    go_round
    case rel=>exact⟨k+1,ad,by go_num,bq.o (.inl b8.o)⟩
    case measure=>exact aH
   .have aB:b1 s[k]=false:=by simpa using hl
    rw[aB];have b8:=ae aB;clear hl aB;by_cases br:k=0
    .have c8:=ae br;subst br;go_wp2;go_ret;exact⟨ret_bool (r7 cX.o b8.o (.inl rfl)).symm,LW⟩
    .have q:((k:Int) == 0)=false:=by simpa using br
     have ar:(k == 0)=false:=by simpa using br
     have c8:=ae br;clear br;go_wp2_with(fail);refine(k2 s[k] w).mono ?_;rintro e ab ⟨rfl,rfl⟩;by_cases hd:bF s[k]=true
     .rw[hd];have cb:=ae hd;clear hd;go_wp2
      go_round
      case rel=>exact⟨k+1,ad,by go_num,bq.o (.inr ⟨by have:=c8.o;omega,cb.o⟩)⟩
      case measure=>exact aH
     .have u:bF s[k]=false:=by simpa using hd
      rw[u];have cb:=ae u;clear hd u;go_wp2;go_ret;exact⟨ret_bool (r7 cX.o b8.o (.inr cb.o)).symm,LW⟩
  .have bH:k=s.size:=ad;have o:jJ s=(decide (1<=s.size) && decide (s.size<=16) && !ir s):=by
    have:=wT (l:=s.data.toList) (λj x hx=>bY.o j x (by have:=(List.getElem?_eq_some_iff.1 hx).1;simp at this;rw[bH];exact this) hx);simpa[jJ,ir] using this
   have cX:=ae o;subst bH;clear o;by_cases ac:1<=s.size/\s.size<=16
   .have q1:decide ((s.size:Int)>=1)=true:=by simp;omega
    have cN:decide ((s.size:Int)<=16)=true:=by simp;omega
    have a3:=ae (show jJ s=!ir s by rw[cX.o];simp[ac]);clear ac;go_wp2_with(fail);refine(m6 s w).mono ?_;rintro e ab ⟨rfl,O⟩;have bO:=ae O;clear O;go_wp2;go_ret;exact⟨ret_bool a3.symm,bO.o⟩
   .have a3:=ae (show jJ s=false by rw[cX.o];simp;omega);by_cases au:1<=s.size
    .have q1:decide ((s.size:Int)>=1)=true:=by simp;omega
     have cN:decide ((s.size:Int)<=16)=false:=by simp;omega
     clear ac au;go_wp2;go_ret;exact⟨ret_bool a3.symm,LW⟩
    .have q1:decide ((s.size:Int)>=1)=false:=by simp;omega
     clear ac au;go_wp2;go_ret;exact⟨ret_bool a3.symm,LW⟩
end Go.Proofs.YtkhnkojkplbioaaGreat
