/- Part 5 of the proof. No condition of its own. -/
import Derived.Test.YtglbpimocmhojaaGreatQ04
namespace Go.Proofs.YtglbpimocmhojaaGreat
open Go.RowKit Go.Proofs.Tryz
set_option maxRecDepth 1000000
set_option maxHeartbeats 25600000
set_option linter.unusedVariables false
variable{s:ByteArray}{d:D}{l m:List D}{cs:List Value}{B k n sz:Nat}{A:Lp}{α:Type}
def bk:VE->D
 | .num n=>.st [.i 1,.i n,.s ⟨#[]⟩,.sl []]
 | .g1 s=>.st [.i 2,.i 0,.s s,.sl []]
 | .loc k=>.st [.i 18,.i k,.s ⟨#[]⟩,.sl []]
 | .iB k=>.st [.i 19,.i k,.s ⟨#[]⟩,.sl []]
 | .un op x=>.st [.i op,.i 0,.s ⟨#[]⟩,.sl [bk x]]
 | .bin op x y=>.st [.i op,.i 0,.s ⟨#[]⟩,.sl [bk x,bk y]]
def jL:D:=.st [.i 0,.i 0,.s ⟨#[]⟩,.sl []]
def oj:Option VE->D
 | none=>jL
 | some x=>bk x
def VE.a9:VE->Int
 | .num _=>1
 | .g1 _=>2
 | .loc _=>18
 | .iB _=>19
 | .un op _=>op
 | .bin op _ _=>op
def VE.numOf:VE->Int
 | .num n=>n
 | .loc k=>k
 | .iB k=>k
 | _=>0
def VE.bu:VE->ByteArray
 | .g1 s=>s
 | _=>⟨#[]⟩
def VE.args:VE->List VE
 | .un _ x=>[x]
 | .bin _ x y=>[x,y]
 | _=>[]
theorem xt(x:VE):bk x=.st [.i x.a9,.i x.numOf,.s x.bu,.sl (x.args.map bk)]:=by
 cases x<;>simp[bk,VE.a9,VE.numOf,VE.bu,VE.args]
theorem c7(x:VE):(bk x).sz=4:=by rw[xt];rfl
section
variable {w:World} {P:Nat->Prop}
theorem aP:D.aQ w P [] cs↔cs=[]:=by simp only[D.aQ]
theorem bm{n:Int}:D.aQ w P (.i n::l) cs↔∃y,cs=.int .i64 n::y/\D.aQ w P l y:=by
 exact C0
theorem fp{n:Bool}:D.aQ w P (.b n::l) cs↔∃y,cs=.bool n::y/\D.aQ w P l y:=by
 exact C0
theorem cp{n:ByteArray}:D.aQ w P (.s n::l) cs↔∃y,cs=.string n::y/\D.aQ w P l y:=by
 exact C0
theorem aN:D.aQ w P (.sl m::l) cs↔∃A n c y,cs=.slice A n c::y/\n<=c/\Sl w P A n m/\D.aQ w P l y:=by
 constructor
 .intro h;simp only[D.aQ] at h;obtain⟨x,y,rfl,hx,h⟩:=h;obtain⟨A,c,n,rfl,hc,hs⟩:=D.sY.1 hx;exact⟨A,n,c,y,rfl,hc,hs,h⟩
 .rintro⟨A,n,c,y,rfl,hc,hs,h⟩;simp only[D.aQ];exact⟨_,y,rfl,D.sY.2 ⟨A,c,n,rfl,hc,hs⟩,h⟩
theorem bI:(D.st m).rep w P cs↔D.aQ w P m cs:=by simp only[D.rep]
theorem a1{x:VE}:(bk x).rep w P cs↔∃A n c,cs=[.int .i64 x.a9,.int .i64 x.numOf,.string x.bu,.slice A n c]/\n<=c/\Sl w P A n (x.args.map bk):=by
 rw[xt,bI,bm];constructor
 .rintro⟨y,rfl,h⟩;obtain⟨cy,rfl,ac⟩:=bm.1 h;obtain⟨cd,rfl,au⟩:=cp.1 ac;obtain⟨A,n,c,bv,rfl,hc,hs,aU⟩:=aN.1 au;exact r3
 .rintro⟨A,n,c,rfl,hc,hs⟩;exact⟨_,rfl,bm.2 ⟨_,rfl,cp.2 ⟨_,rfl,aN.2 ⟨A,n,c,[],rfl,hc,hs,aP.2 rfl⟩⟩⟩⟩
theorem fh:jL.rep w P cs↔∃A c,cs=[.int .i64 0,.int .i64 0,.string ⟨#[]⟩,.slice A 0 c]:=by
 unfold jL;rw[bI,bm];constructor
 .rintro⟨y,rfl,h⟩;obtain⟨cy,rfl,ac⟩:=bm.1 h;obtain⟨cd,rfl,au⟩:=cp.1 ac;obtain⟨A,n,c,bv,rfl,hc,hs,aU⟩:=aN.1 au;rw[aP] at aU;subst aU;obtain rfl:n=0:=hs.1.symm;exact⟨A,c,rfl⟩
 .rintro⟨A,c,rfl⟩;exact⟨_,rfl,bm.2 ⟨_,rfl,cp.2 ⟨_,rfl,aN.2 ⟨A,0,c,[],rfl,KZ _,Sl.bN A,aP.2 rfl⟩⟩⟩⟩
theorem Sl.DU(h:Sl w P A 1 [d])(bt:d.sz=4):∃b o bs Z bA E,A=some ⟨b,o,none⟩/\P b/\d.rep w P [bs,Z,bA,E]/\
  w.cell? ⟨b,o,none⟩=some bs/\w.cell? ⟨b,o+1,none⟩=some Z/\w.cell? ⟨b,o+2,none⟩=some bA/\w.cell? ⟨b,o+3,none⟩=some E:=by
 obtain⟨b,o,a,cs,bw,O,hd,a5,hl,hc⟩:=h.at_ (z:=4) (k:=0) (λe he=>by simp at he;subst he;exact bt) ad;simp at hd;subst hd
 match cs,hl with
 | [bs,Z,bA,E],_=>
  have h0:=hc 0 bs rfl;have ac:=hc 1 Z rfl;have au:=hc 2 bA rfl;have aU:=hc 3 E rfl;simp only[Nat.zero_mul,KN] at h0 ac au aU;exact⟨b,o,bs,Z,bA,E,bw,O,a5,h0,ac,au,aU⟩
theorem Sl.Jy{e:D}(h:Sl w P A 2 [d,e])(bt:d.sz=4)(ck:e.sz=4):∃b o bs Z bA E cr cy cd bv,A=some ⟨b,o,none⟩/\P b/\d.rep w P [bs,Z,bA,E]/\e.rep w P [cr,cy,cd,bv]/\
  w.cell? ⟨b,o,none⟩=some bs/\w.cell? ⟨b,o+1,none⟩=some Z/\w.cell? ⟨b,o+2,none⟩=some bA/\w.cell? ⟨b,o+3,none⟩=some E/\
  w.cell? ⟨b,o+4,none⟩=some cr/\w.cell? ⟨b,o+5,none⟩=some cy/\w.cell? ⟨b,o+6,none⟩=some cd/\w.cell? ⟨b,o+7,none⟩=some bv:=by
 have s:∀x∈[d,e],x.sz=4:=λx hx=>by
  simp at hx;rcases hx with rfl|rfl<;>assumption
 obtain⟨b,o,a,cs,bw,O,hd,a5,hl,hc⟩:=h.at_ (z:=4) (k:=0) s ad;obtain⟨K,M,l,f,am,_,he,I,aB,a3⟩:=h.at_ (z:=4) (k:=1) s ad;rw[bw] at am;injection am with am;injection am with aV cg;subst aV cg;simp at hd he;subst hd he
 match cs,hl,f,aB with
 | [bs,Z,bA,E],_,[cr,cy,cd,bv],_=>
  have h0:=hc 0 bs rfl;have ac:=hc 1 Z rfl;have au:=hc 2 bA rfl;have aU:=hc 3 E rfl;have dh:=a3 0 cr rfl;have cv:=a3 1 cy rfl;have bO:=a3 2 cd rfl;have cV:=a3 3 bv rfl;simp only[Nat.zero_mul,KN,Nat.one_mul,Nat.add_assoc,Nat.reduceAdd] at h0 ac au aU dh cv bO cV;exact⟨b,o,bs,Z,bA,E,cr,cy,cd,bv,bw,O,a5,I,h0,ac,au,aU,dh,cv,bO,cV⟩
theorem kt:∀(x:VE) (cs:List Value),(bk x).rep w P cs->x.rep w P cs
 | .num n,cs,h=>by
  obtain⟨A,n,c,rfl,_,hs⟩:=a1.1 h;obtain rfl:n=0:=hs.1.symm
  exact⟨_,_,_,rfl⟩
 | .g1 s,cs,h=>by
  obtain⟨A,n,c,rfl,_,hs⟩:=a1.1 h;obtain rfl:n=0:=hs.1.symm
  exact⟨_,_,_,rfl⟩
 | .loc k,cs,h=>by
  obtain⟨A,n,c,rfl,_,hs⟩:=a1.1 h;obtain rfl:n=0:=hs.1.symm
  exact⟨_,_,_,rfl⟩
 | .iB k,cs,h=>by
  obtain⟨A,n,c,rfl,_,hs⟩:=a1.1 h;obtain rfl:n=0:=hs.1.symm
  exact⟨_,_,_,rfl⟩
 | .un op x,cs,h=>by
  obtain⟨A,n,c,rfl,_,hs⟩:=a1.1 h;obtain rfl:n=1:=hs.1.symm;obtain⟨b,o,bs,Z,bA,E,rfl,O,a5,c0,c1,c2,c3⟩:=Sl.DU hs (c7 x)
  exact⟨_,_,b,o,c,bs,Z,bA,E,rfl,O,kt x _ a5,c0,c1,c2,c3⟩
 | .bin op x y,cs,h=>by
  obtain⟨A,n,c,rfl,_,hs⟩:=a1.1 h;obtain rfl:n=2:=hs.1.symm;obtain⟨b,o,bs,Z,bA,E,cr,cy,cd,bv,rfl,O,a5,I,c0,c1,c2,c3,d0,d1,d2,d3⟩:=Sl.Jy hs (c7 x) (c7 y);exact⟨_,_,b,o,c,bs,Z,bA,E,cr,cy,cd,bv,rfl,O,kt x _ a5,kt y _ I,c0,c1,c2,c3,d0,d1,d2,d3⟩
end
def kx(r:eO):D:=.st [.s r.name,.sl (r.idx.toList.map bk)]
def fV:D:=.st [.s ⟨#[]⟩,.sl []]
def gI:dn->D
 | .mx r=>.st [.b true,kx r,jL]
 | .ex e=>.st [.b false,fV,bk e]
def gE(kind:Int)(name:ByteArray)(e r:D)(args th el:List D):D:=.st [.i kind,.s name,e,r,.sl args,.sl th,.sl el]
def c4:an->List D
 | .nil=>[]
 | .set v n e rest=>gE (if v then 1 else 2) n (bk e) fV [] [] []::c4 rest
 | .call g n a1 rest=>gE (if g then 4 else 3) n jL fV (a1.map gI) [] []::c4 rest
 | .lock u r rest=>gE (if u then 6 else 5) ⟨#[]⟩ jL (kx r) [] [] []::c4 rest
 | .ite e th el rest=>gE 7 ⟨#[]⟩ (bk e) fV [] (c4 th) (c4 el)::c4 rest
 | .gv e th rest=>gE 8 ⟨#[]⟩ (bk e) fV [] (c4 th) []::c4 rest
 | .ret rest=>gE 9 ⟨#[]⟩ jL fV [] [] []::c4 rest
def ds(p:ByteArray×Bool):D:=.st [.s p.1,.b p.2]
def dr(f:aJ):D:=.st [.s f.name,.sl (f.params.map ds),.sl (c4 f.body)]
def iz(g:ByteArray×Int):D:=.st [.s g.1,.i g.2]
def ey(m:bG):D:=.st [.s m.name,.b m.re,.i m.size]
def di(p:bQ):D:=.st [.b p.param,.i p.index,.sl (p.at_.toList.map bk)]
def ef(x:az):D:=.st [.i x.op,.i x.target,.b x.dg,oj x.expr,di x.place,.sl (x.ints.map bk),.sl (x.places.map di)]
def gd(p:cH):D:=.st [.s p.name,.i p.ints,.i p.au,.i p.locals,.sl (p.code.map ef)]
def tC(u:ay):D:=.st [.sl (u.globals.map D.i),.sl (u.af.map ey),.sl (u.procs.map gd),.i u.main]
def er(f:al):D:=.st [.i f.proc,.i f.pc,.sl (f.ints.map D.i),.sl (f.au.map D.i)]
def jP(t:List al):D:=.st [.sl (t.map er)]
def lh(h:cy):D:=.st [.i h.owner,.i h.depth]
theorem Sl.IQ{enc:α->D}{f:α->List Value}(J:∀(w:World) (P:Nat->Prop) (x:α) (cs:List Value),(enc x).rep w P cs->cs=f x)(bt:∀x,(enc x).sz=sz)
  {w:World} {A:Lp} {n:Nat} {l:List α} (h:Sl w (av w) A n (l.map enc)):cx (EF f) sz w w.heap.size A n l:=by
 have hl:l.length=n:=by rw[<-h.1,KH]
 refine⟨hl,λhn=>?_⟩;obtain⟨b,o,bw,O⟩:=h.some_ hn;refine⟨b,o,bw,O,λk x hx=>?_⟩;have ap:k<n:=by have:=(List.getElem?_eq_some_iff.1 hx).1;omega
 obtain⟨K,M,y,cs,am,_,bb,a5,a2,hc⟩:=h.g0 bt ap;rw[bw] at am;injection am with am;injection am with ac au;subst ac au;rw[hx] at bb;injection bb with bb;subst bb;exact⟨cs,J _ _ _ _ a5,a2,hc⟩
theorem mN{α:Type}{enc:α->D}{f:α->List Value}{w:World}{P:Nat->Prop}(J:∀x,(enc x).rep w P (f x)):∀l:List α,D.aQ w P (l.map enc) (l.flatMap f)
 | []=>by simp only[Lb,D.aQ,List.flatMap_nil]
 | x::l=>by
  rw[KJ,KX];simp only[D.aQ];exact⟨_,_,rfl,J x,mN J l⟩
theorem cx.sl{enc:α->D}{f:α->List Value}{w:World}{P:Nat->Prop}{l:List α}(J:∀x,(enc x).rep w P (f x))(hs:∀x,(f x).length=sz)(h0:0<sz)
  (h:cx (EF f) sz w B A n l) (aZ:∀b,b<B->P b):Sl w P A n (l.map enc):=by
 refine⟨by rw[KH,h.1],λhn=>?_⟩;obtain⟨b,o,bw,O,hc⟩:=h.2 hn;refine⟨b,o,l.flatMap f,bw,aZ b O,mN J l,λj u bi=>?_⟩;have aU:=(List.getElem?_eq_some_iff.1 bi).1;rw[gi f sz l λx _=>hs x] at aU;have cm:j / sz<l.length:=by rw[Nat.div_lt_iff_lt_mul h0];exact aU
 have hx:l[j / sz]?=some (l[j / sz]'cm):=List.getElem?_eq_getElem cm;have d:=Nat.mod_lt j h0;have a:j / sz*sz+j % sz=j:=Nat.div_add_mod' j sz;have cd:=fI f sz l (λx _=>hs x) _ _ hx (j % sz) d;rw[a,bi] at cd;obtain⟨cs,he,_,c⟩:=hc _ _ hx;rw[EF] at he;subst he;have:=c _ _ cd.symm
 rwa [Nat.add_assoc,a] at this
theorem xJ{w:World}{P:Nat->Prop}{x:Int}:(D.i x).rep w P cs↔cs=cT x:=by simp only[D.rep,cT]
theorem Sl.ints{w:World}{l:List Int}(h:Sl w (av w) A n (l.map D.i)):cx (EF cT) 1 w w.heap.size A n l:=Sl.IQ (enc:=D.i) (f:=cT) (λ_ _ _ _=>xJ.1) (λ_=>rfl) h
theorem cx.ints{w:World}{P:Nat->Prop}{l:List Int}(h:cx (EF cT) 1 w B A n l)(aZ:∀b,b<B->P b):Sl w P A n (l.map D.i):=cx.sl (enc:=D.i) (f:=cT) (λ_=>xJ.2 rfl) (λ_=>rfl) (by decide) h aZ
theorem fb{w:World}{P:Nat->Prop}{m:bG}:(ey m).rep w P cs↔cs=gy m:=by
 unfold ey;rw[bI,cp];constructor
 .rintro⟨y,rfl,h⟩;rw[fp] at h;exact zp
 .rintro rfl;exact⟨_,rfl,fp.2 ⟨_,rfl,bm.2 ⟨_,rfl,aP.2 rfl⟩⟩⟩
theorem uk{w:World}{P:Nat->Prop}{m:cy}:(lh m).rep w P cs↔cs=bH m:=by
 unfold lh;rw[bI,bm];exact CY
theorem Sl.om{w:World}{l:List bG}(h:Sl w (av w) A n (l.map ey)):cx (EF gy) 3 w w.heap.size A n l:=Sl.IQ (enc:=ey) (f:=gy) (λ_ _ _ _=>fb.1) (λ_=>rfl) h
theorem cx.om{w:World}{P:Nat->Prop}{l:List bG}(h:cx (EF gy) 3 w B A n l)(aZ:∀b,b<B->P b):Sl w P A n (l.map ey):=cx.sl (enc:=ey) (f:=gy) (λ_=>fb.2 rfl) (λ_=>rfl) (by decide) h aZ
theorem Sl.holds{w:World}{l:List cy}(h:Sl w (av w) A n (l.map lh)):cx (EF bH) 2 w w.heap.size A n l:=Sl.IQ (enc:=lh) (f:=bH) (λ_ _ _ _=>uk.1) (λ_=>rfl) h
theorem cx.holds{w:World}{P:Nat->Prop}{l:List cy}(h:cx (EF bH) 2 w B A n l)(aZ:∀b,b<B->P b):Sl w P A n (l.map lh):=cx.sl (enc:=lh) (f:=bH) (λ_=>uk.2 rfl) (λ_=>rfl) (by decide) h aZ
def oT(c:UInt8):Bool:=c == 32 || c == 9 || c == 10 || c == 13
def bX(c:UInt8):Bool:=(decide (97<=c.toNat) && decide (c.toNat<=122)) || (decide (65<=c.toNat) && decide (c.toNat<=90)) || decide (c.toNat=95)
def bB(c:UInt8):Bool:=decide (48<=c.toNat) && decide (c.toNat<=57)
def cf(c:UInt8):Bool:=bX c || bB c
def te:List (List UInt8):=[[118,97,114],[109,117,116,101,120],[114,109,117,116,101,120],[102,117,110,99],[108,111,99,107],[117,110,108,111,99,107],[103,111],[105,102],[101,108,115,101],[119,104,105,108,101],[114,101,116,117,114,110]]
def dE(s:List UInt8):Bool:=decide (s∈te)
def bD(s:List UInt8):Bool:=(match s with|[]=>false|c::l=>bX c && l.all cf) && decide (s.length<=16) && !dE s
def fq:List (List UInt8):=[[60,61],[62,61],[61,61],[33,61],[38,38],[124,124]]
def eL:List (List UInt8):=[[40],[41],[123],[125],[91],[93],[44],[59],[61],[43],[45],[42],[47],[37],[60],[62],[33]]
def eY(l:List UInt8):Nat:=if decide (l.take 2∈fq) && decide (2<=l.length) then 2 else if decide (l.take 1∈eL) then 1 else 0
def aT:Bool->List UInt8->List UInt8
 | _,[]=>[]
 | true,c::l=>if c=10 then aT false l else aT true l
 | false,c::l=>if oT c then aT false l else if c=47/\l.head?=some 47 then aT true l else c::l
theorem jF:∀(b:Bool) (l:List UInt8),(aT b l).length<=l.length
 | _,[]=>by unfold aT;simp
 | true,c::l=>by
  unfold aT;split
  .have:=jF false l;simp;omega
  .have:=jF true l;simp;omega
 | false,c::l=>by
  unfold aT;split
  .have:=jF false l;simp;omega
  .split
   .have:=jF true l;simp;omega
   .simp
def iH:Int->List UInt8->Int
 | n,[]=>n
 | n,c::l=>if n > (9223372036854775807 - ((c.toNat:Int) - 48)) / 10 then -1 else iH (10*n+((c.toNat:Int) - 48)) l
def pZ(l:List UInt8):Int:=iH 0 l
structure Tok where
 kind:Int
 text:List UInt8
 num:Int
 pos:Int
def fK:Nat->Nat->List UInt8->List Tok->List Tok×Int×Int
 | 0,_,_,_=>([],0,1)
 | f+1,n,l,acc=>
  match aT false l with
  | []=>(acc++[⟨5,[],0,n⟩],n,0)
  | c::r=>
   let at_:Int:=(n:Int) - (r.length+1)
   if bX c then
    let t:=(c::r).takeWhile cf
    if !dE t && decide (16<t.length) then ([],at_,3)
    else if acc.length=4000 then ([],at_,3)
    else fK f n ((c::r).dropWhile cf) (acc++[⟨if dE t then 3 else 1,t,0,at_⟩])
   else if bB c then
    let t:=(c::r).takeWhile bB
    if pZ t<0 then ([],at_,2)
    else if acc.length=4000 then ([],at_,3)
    else fK f n ((c::r).dropWhile bB) (acc++[⟨2,t,pZ t,at_⟩])
   else if eY (c::r)=0 then ([],at_,1)
   else if acc.length=4000 then ([],at_,3)
   else fK f n ((c::r).drop (eY (c::r))) (acc++[⟨4,(c::r).take (eY (c::r)),0,at_⟩])
def dt(l:List UInt8):List Tok×Int×Int:=if 262144<l.length then ([],262144,3) else fK (l.length+1) l.length l []
inductive Atom where
 | ws (c:UInt8)
 | word (s:List UInt8)
 | num (s:List UInt8)
 | sg (s:List UInt8)
def Atom.bytes:Atom->List UInt8
 | .ws c=>[c]
 | .word s=>s
 | .num s=>s
 | .sg s=>s
def Atom.fW:Atom->Prop
 | .ws c=>oT c=true
 | .word s=>(∃c l,s=c::l/\bX c=true/\l.all cf=true)/\(dE s=true\/s.length<=16)
 | .num s=>(∃c l,s=c::l)/\s.all bB=true/\0<=pZ s
 | .sg s=>s∈fq\/s∈eL
def Atom.km:Atom->Bool
 | .word _=>true
 | .num _=>true
 | _=>false
def Atom.head:Atom->Option UInt8
 | .ws c=>some c
 | .word s=>s.head?
 | .num s=>s.head?
 | .sg s=>s.head?
def Atom.fits(a b:Atom):Prop:=
 (a.km=true->b.km=false)/\∀s,a=.sg s->s∈eL->∀c,b.head=some c->(s++[c])∉fq/\¬(s=[47]/\c=47)
def Atom.count:List Atom->Nat
 | []=>0
 | .ws _::l=>Atom.count l
 | _::l=>Atom.count l+1
def Atom.chain:List Atom->Prop
 | []=>True
 | [a]=>a.fW
 | a::b::l=>a.fW/\a.fits b/\Atom.chain (b::l)
theorem wY(c:UInt8)(h:oT c=true):bX c=false/\bB c=false:=by
 simp only[oT,Bool.or_eq_true,beq_iff_eq] at h;rcases h with((rfl|rfl)|rfl)|rfl<;>decide
theorem vS(c:UInt8)(h:bX c=true):oT c=false/\c≠47:=by
 refine⟨?_,?_⟩
 .cases hw:oT c with
  | false=>rfl
  | true=>have:=(wY c hw).1;rw[h] at this;cases this
 .rintro rfl;revert h;decide
theorem x6(c:UInt8)(h:bB c=true):oT c=false/\c≠47/\bX c=false:=by
 refine⟨?_,?_,?_⟩
 .cases hw:oT c with
  | false=>rfl
  | true=>have:=(wY c hw).2;rw[h] at this;cases this
 .rintro rfl;revert h;decide
 .simp only[bB,KP,Li] at h;simp only[bX,Bool.or_eq_false_iff,Bool.and_eq_false_iff,decide_eq_false_iff_not];omega
theorem g4{p:α->Bool}{s r:List α}(h:s.all p=true)(a5:∀c,r.head?=some c->p c=false):(s++r).takeWhile p=s/\(s++r).dropWhile p=r:=by
 induction s with
 | nil=>
  cases r with
  | nil=>simp
  | cons c r=>have:=a5 c rfl;simp[this]
 | cons a s ao=>
  simp only[List.all_cons,KP] at h;have:=ao h.2;simp[h.1,this]
theorem iC:∀(e:List Atom) (f n:Nat) (acc:List Tok),Atom.chain e->(e.flatMap Atom.bytes).length<f->acc.length+Atom.count e<=4000->(fK f n (e.flatMap Atom.bytes) acc).2.2=0
 | [],f,n,acc,_,J,_=>by
  cases f with
  | zero=>omega
  | succ f=>simp[fK,aT]
 | a::e,f,n,acc,hc,J,hn=>by
  have a2:a.fW:=by cases e<;>simp only[Atom.chain] at hc<;>first|exact hc|exact hc.1
  have q:Atom.chain e:=by
   cases e with
   | nil=>trivial
   | cons b l=>exact hc.2.2
  have i:∀b l,e=b::l->a.fits b:=λb l h=>by subst h;exact hc.2.1
  have u:∀c,(e.flatMap Atom.bytes).head?=some c->∃b l,e=b::l/\b.head=some c/\b.fW:=by
   intro c h
   cases e with
   | nil=>simp at h
   | cons b l=>
    have j:b.fW:=by cases l<;>simp only[Atom.chain] at q<;>first|exact q|exact q.1
    refine⟨b,l,rfl,?_,j⟩
    cases b with
    | ws d=>simpa[Atom.bytes,Atom.head] using h
    | word s=>
     obtain⟨⟨d,m,rfl,_⟩,_⟩:=j
     simpa[Atom.bytes,Atom.head] using h
    | num s=>
     obtain⟨⟨d,m,rfl⟩,_⟩:=j
     simpa[Atom.bytes,Atom.head] using h
    | sg s=>
     have:∃d m,s=d::m:=by
      cases s with
      | nil=>rcases j with h|h<;>simp[fq,eL] at h
      | cons d m=>exact⟨d,m,rfl⟩
     obtain⟨d,m,rfl⟩:=this;simpa[Atom.bytes,Atom.head] using h
  have w:∀b:Atom,b.km=false->b.fW->∀c,b.head=some c->cf c=false:=by
   intro b O j c hc
   cases b with
   | ws d=>
    simp only[Atom.head,Lg] at hc;subst hc;have:=wY d j
    simp[cf,this.1,this.2]
   | word s=>simp[Atom.km] at O
   | num s=>simp[Atom.km] at O
   | sg s=>
    have key:∀s∈fq++eL,∀c,s.head?=some c->cf c=false:=by decide
    refine key s ?_ c hc;rcases j with h|h<;>simp[h]
  cases f with
  | zero=>omega
  | succ f=>
   have hl:((a::e).flatMap Atom.bytes).length=a.bytes.length+(e.flatMap Atom.bytes).length:=by rw[KX,KF]
   cases a with
   | ws c=>
    have hw:oT c=true:=a2;have hlen:(e.flatMap Atom.bytes).length<f+1:=ad;have ao:=iC e (f+1) n acc q hlen (by simpa[Atom.count] using hn);have hs:aT false (c::e.flatMap Atom.bytes)=aT false (e.flatMap Atom.bytes):=by
     rw[aT,if_pos hw]
    simp only[KX,Atom.bytes,List.singleton_append];unfold fK at ao ⊢;rw[hs]
    exact ao
   | word s=>
    obtain⟨⟨c,l,rfl,bj,z⟩,ap⟩:=a2;have cY:=vS c bj;have v:∀d,(e.flatMap Atom.bytes).head?=some d->cf d=false:=λd hd=>by
     obtain⟨b,l,has,O,j⟩:=u d hd;exact w b ((i b l has).1 rfl) j d O
    have o:=g4 (p:=cf) (s:=c::l) (r:=e.flatMap Atom.bytes) (by simp[z,cf,bj]) v;simp only[KS] at o;have g:aT false (c::(l++e.flatMap Atom.bytes))=c::(l++e.flatMap Atom.bytes):=by
     rw[aT,if_neg (by simp[cY.1]),if_neg (by simp[cY.2])]
    simp only[Atom.count] at hn;have ao:=λt=>iC e f n (acc++[t]) q (by simp only[Atom.bytes,KQ] at hl;omega) (by simp;omega);simp only[KX,Atom.bytes,KS];unfold fK;simp only[g,bj,if_true,o.1,o.2];rw[if_neg ?_,if_neg ad]
    .exact ao _
    .rcases ap with h|h
     .simp[h]
     .have an:¬16<(c::l).length:=ad
      simp only[an,decide_false,Bool.and_false,Lj,not_false_eq_true]
   | num s=>
    obtain⟨⟨c,l,rfl⟩,hd,bI⟩:=a2;simp only[List.all_cons,KP] at hd;have cY:=x6 c hd.1;have v:∀d,(e.flatMap Atom.bytes).head?=some d->bB d=false:=λd hd=>by
     obtain⟨b,l,has,O,j⟩:=u d hd;have:=w b ((i b l has).1 rfl) j d O;simp only[cf,Bool.or_eq_false_iff] at this;exact this.2
    have o:=g4 (p:=bB) (s:=c::l) (r:=e.flatMap Atom.bytes) (by simp[hd]) v;simp only[KS] at o;have g:aT false (c::(l++e.flatMap Atom.bytes))=c::(l++e.flatMap Atom.bytes):=by
     rw[aT,if_neg (by simp[cY.1]),if_neg (by simp[cY.2.1])]
    simp only[Atom.count] at hn;have ao:=λt=>iC e f n (acc++[t]) q (by simp only[Atom.bytes,KQ] at hl;omega) (by simp;omega);simp only[KX,Atom.bytes,KS];unfold fK;simp only[g,cY.2.2,Lj,if_false,hd.1,if_true,o.1,o.2];rw[if_neg ad,if_neg ad]
    exact ao _
   | sg s=>
    simp only[Atom.count] at hn;have ao:=λt=>iC e f n (acc++[t]) q (by
     have:1<=s.length:=by
      cases s with
      | nil=>rcases a2 with h|h<;>simp[fq,eL] at h
      | cons d m=>simp
     simp only[Atom.bytes] at hl;omega) (by simp;omega)
    have au:∀s∈fq,∃c d,s=[c,d]/\oT c=false/\c≠47/\bX c=false/\bB c=false:=by
     intro s hs;simp only[fq,KT,List.not_mem_nil,or_false] at hs;rcases hs with rfl|rfl|rfl|rfl|rfl|rfl<;>exact⟨_,_,rfl,by decide,by decide,by decide,by decide⟩
    have ac:∀s∈eL,∃c,s=[c]/\oT c=false/\bX c=false/\bB c=false:=by
     intro s hs;simp only[eL,KT,List.not_mem_nil,or_false] at hs;rcases hs with rfl|rfl|rfl|rfl|rfl|rfl|rfl|rfl|rfl|rfl|rfl|rfl|rfl|rfl|rfl|rfl|rfl<;>exact⟨_,rfl,by decide,by decide,by decide⟩
    by_cases bN:s∈fq
    .obtain⟨c,d,rfl,cv,bO,cV,H⟩:=au s bN;have g:aT false (c::d::e.flatMap Atom.bytes)=c::d::e.flatMap Atom.bytes:=by
      rw[aT,if_neg (by simp[cv]),if_neg (by simp[bO])]
     have k:eY (c::d::e.flatMap Atom.bytes)=2:=by simp[eY,bN]
     exact y4
    .have cp:s∈eL:=a2.resolve_left bN;obtain⟨c,rfl,cv,cV,H⟩:=ac s cp;have ci:∀d,(e.flatMap Atom.bytes).head?=some d->[c,d]∉fq/\¬(c=47/\d=47):=λd hd=>by
      obtain⟨b,l,has,O,_⟩:=u d hd;have:=(i b l has).2 [c] rfl cp d O;simpa using this
     have g:aT false (c::e.flatMap Atom.bytes)=c::e.flatMap Atom.bytes:=by
      rw[aT,if_neg (by simp[cv]),if_neg ?_];rintro⟨e1,e2⟩;exact(ci 47 e2).2 ⟨e1,rfl⟩
     have k:eY (c::e.flatMap Atom.bytes)=1:=by
      unfold eY;rw[if_neg ?_,if_pos (decide_eq_true (by simpa using cp))];intro h;simp only[KP,Li,KQ] at h
      cases a5:e.flatMap Atom.bytes with
      | nil=>rw[a5] at h;simp at h
      | cons d r=>
       rw[a5] at h;exact(ci d (by rw[a5];rfl)).1 (by simpa using h.1)
     exact y4
theorem lX(c:UInt8)(w:World):Calls prog 122 #[.int .u8 c.toNat] w λe ab=>e=.returned (.bool (bX c))/\w=ab:=by
 go_enter func122,ntmps122;go_wp2
 all_goals
  go_ret;refine⟨ret_bool ?_,rfl⟩;rw[Bool.eq_iff_iff];simp[bX];omega
theorem kQ(c:UInt8)(w:World):Calls prog 123 #[.int .u8 c.toNat] w λe ab=>e=.returned (.bool (bB c))/\w=ab:=by
 go_enter func123,ntmps123;go_wp2
 all_goals
  go_ret;refine⟨ret_bool ?_,rfl⟩;rw[Bool.eq_iff_iff];simp[bB];omega
theorem s3{x:ByteArray}(h:x≠s):(x.toList == s.toList)=false:=by
 refine beq_eq_false_iff_ne.2 λe=>h ?_;rw[ByteArray.ext_iff];rw[Go.Lib.toList_data,Go.Lib.toList_data] at e;exact Array.toList_inj.1 e
def hasB(l:Lq)(s:ByteArray):Bool:=l.any λx=>decide (x=s)
theorem yf{l:Lq}(h:∀(j:Nat) (x:ByteArray),l[j]?=some x->x≠s):hasB l s=false:=by
 unfold hasB;rw[List.any_eq_false];exact zB
theorem yg{l:Lq}{j:Nat}(h:l[j]?=some s):hasB l s=true:=by
 unfold hasB;rw[List.any_eq_true];exact⟨s,KG h,by simp⟩
theorem oG(A:Lp)(n c:Nat)(l:Lq)(s:ByteArray)(w:World)(h:cx (EF oh) 1 w w.heap.size A n l)(hn:n<=1000000) :
  Calls prog 144 #[.slice A n c,.string s] w λe ab=>e=.returned (.bool (hasB l s))/\w=ab:=by
 have H:=ae h;clear h;go_enter func144,ntmps144;go_wp2
 go_loop [5] (λi=>∃k:Nat,k<=n/\i=.int .i64 k/\∀(j:Nat) (x:ByteArray),j<k->l[j]?=some x->x≠s) (λi=>n - (intOf i).toNat)
 case atStart=>exact⟨0,KZ _,rfl,λj x h=>ad⟩
 case round=>
  obtain⟨k,ap,rfl,be⟩:=hrel;have b4:=ae be;clear be;by_cases ak:k<n
  .obtain⟨b,o,x,rfl,O,hx,hc⟩:=H.str ak;have aQ:=ae hx;clear hx;by_cases hs:x=s
   .subst hs;go_wp2;go_ret;exact⟨ret_bool (yg aQ.o).symm,rfl⟩
   .have q:=s3 hs;have bo:=ae hs;clear hs;go_wp2
    go_round
    case rel=>exact⟨k+1,ad,by go_num,λj y bi bb=>by
     by_cases z:j=k
     .subst z;rw[aQ.o] at bb;injection bb with bb;subst bb;exact bo.o
     .exact b4.o j y ad bb⟩
    case measure=>exact aG
  .have cm:k=n:=ad;have c5:=ae cm;clear cm;go_wp2;go_ret;exact⟨ret_bool (yf λj x bi=>b4.o j x (by have:=(List.getElem?_eq_some_iff.1 bi).1;have:=H.1;have:=c5.o;omega) bi).symm,rfl⟩
theorem mK(w:World)(cs:Array Value)(t:TypeId)(l:Lq)(hc:cs=(l.map Value.string).toArray)(hl:l.length=n):cx (EF oh) 1 (w.alloc (.cells cs t)) (w.alloc (.cells cs t)).heap.size (some ⟨w.heap.size,0,none⟩) n l:=by
 subst hc;refine⟨hl,λ_=>⟨w.heap.size,0,rfl,by simp,λk x hx=>⟨oh x,rfl,rfl,λj v bi=>?_⟩⟩⟩;have dH:j=0/\v=.string x:=by
  exact zq
 obtain⟨rfl,rfl⟩:=dH;rw[(aq.new w t _).cell];simp[hx]
def strOf(l:List UInt8):ByteArray:=⟨l.toArray⟩
theorem mC(L:List (List UInt8))(s:ByteArray):hasB (L.map strOf) s=decide (s.data.toList∈L):=by
 unfold hasB;rw[Bool.eq_iff_iff,List.any_eq_true,Li];constructor
 .rintro⟨x,hx,he⟩;obtain⟨y,bb,rfl⟩:=Lc.1 hx;simp only[Li] at he;subst he;exact bb
 .intro h;refine⟨strOf s.data.toList,Lc.2 ⟨_,h,rfl⟩,?_⟩;simp[strOf]
def ie(s:ByteArray):Bool:=dE s.data.toList
theorem mP(s:ByteArray)(w:World):Calls prog 124 #[.string s] w λe ab=>e=.returned (.bool (ie s))/\Ext w ab:=by
 go_enter func124,ntmps124;go_wp2_with(fail);refine(oG _ 11 11 (te.map strOf) s _ (mK w _ _ _ rfl rfl) ad).mono ?_;rintro e ab ⟨rfl,rfl⟩;go_wp2;go_ret;exact⟨ret_bool (mC _ _),Ll.alloc _⟩
def jC(s:ByteArray):Bool:=bD s.data.toList
theorem rC{l:List UInt8}{x:UInt8}(hx:l[k]?=some x)(hl:bX x=false)(ap:k=0\/bB x=false):bD l=false:=by
 cases l with
 | nil=>simp at hx
 | cons c l=>
  unfold bD;simp only[Bool.and_eq_false_iff];left;left
  cases k with
  | zero=>
   simp at hx;subst hx
   exact .inl hl
  | succ k=>
   right;rw[List.getElem?_cons_succ] at hx;have hd:=ap.resolve_left ad;rw[List.all_eq_false];exact⟨x,KG hx,by simp[cf,hl,hd]⟩
theorem v5{l:List UInt8}(h:∀(j:Nat) (x:UInt8),l[j]?=some x->bX x=true\/(0<j/\bB x=true)):bD l=(decide (1<=l.length) && decide (l.length<=16) && !dE l):=by
 cases l with
 | nil=>rfl
 | cons c l=>
  have h0:=(h 0 c rfl).resolve_right ad;have y:l.all cf=true:=by
   rw[List.all_eq_true];intro x hx;obtain⟨j,bi⟩:=List.getElem?_of_mem hx;have:=h (j+1) x (by rw[List.getElem?_cons_succ];exact bi);unfold cf;rcases this with ac|ac<;>simp[ac]
  unfold bD;simp[h0,y]
theorem byte_at(h:k<s.size):s.data.toList[k]?=some s[k]:=by
 rw[List.getElem?_eq_getElem (by simpa using h)];rfl
theorem g6(s:ByteArray)(w:World)(hs:s.size<=1000000):Calls prog 100 #[.string s] w λe ab=>e=.returned (.bool (jC s))/\Ext w ab:=by
 go_enter func100,ntmps100;go_wp2
 go_loop [3] (λi=>∃k:Nat,k<=s.size/\i=.int .i64 k/\∀(j:Nat) (x:UInt8),j<k->s.data.toList[j]?=some x->bX x=true\/(0<j/\bB x=true)) (λi=>s.size - (intOf i).toNat)
 case atStart=>exact⟨0,KZ _,rfl,λj x h=>ad⟩
 case round=>
  obtain⟨k,ap,rfl,be⟩:=hrel;have b4:=ae be;clear be;by_cases ak:k<s.size
  .have cC:=ae (byte_at ak);have step:(bX s[k]=true\/(0<k/\bB s[k]=true))->∀(j:Nat) (x:UInt8),j<k+1->s.data.toList[j]?=some x->bX x=true\/(0<j/\bB x=true):=by
    intro h j x bi hx;by_cases z:j=k
    .subst z;rw[cC.o] at hx;injection hx with hx;subst hx;exact h
    .exact b4.o j x ad hx
   have bo:=ae step;clear step;go_wp2_with(fail);refine(lX s[k] w).mono ?_;rintro e ab ⟨rfl,rfl⟩;by_cases hl:bX s[k]=true
   .rw[hl];have b9:=ae hl;clear hl;go_wp2
    go_round
    case rel=>exact⟨k+1,ad,by go_num,bo.o (.inl b9.o)⟩
    case measure=>exact aG
   .have aB:bX s[k]=false:=by simpa using hl
    rw[aB];have b9:=ae aB;clear hl aB;by_cases bz:k=0
    .have c5:=ae bz;subst bz;go_wp2;go_ret;exact⟨ret_bool (rC cC.o b9.o (.inl rfl)).symm,Ll⟩
    .have q:((k:Int) == 0)=false:=by simpa using bz
     have ar:(k == 0)=false:=by simpa using bz
     have c5:=ae bz;clear bz;go_wp2_with(fail);refine(kQ s[k] w).mono ?_;rintro e ab ⟨rfl,rfl⟩;by_cases hd:bB s[k]=true
     .rw[hd];have cw:=ae hd;clear hd;go_wp2
      go_round
      case rel=>exact⟨k+1,ad,by go_num,bo.o (.inr ⟨by have:=c5.o;omega,cw.o⟩)⟩
      case measure=>exact aG
     .have u:bB s[k]=false:=by simpa using hd
      rw[u];have cw:=ae u;clear hd u;go_wp2;go_ret;exact⟨ret_bool (rC cC.o b9.o (.inr cw.o)).symm,Ll⟩
  .have cm:k=s.size:=ad;have o:jC s=(decide (1<=s.size) && decide (s.size<=16) && !ie s):=by
    have:=v5 (l:=s.data.toList) (λj x hx=>b4.o j x (by have:=(List.getElem?_eq_some_iff.1 hx).1;simp at this;rw[cm];exact this) hx);simpa[jC,ie] using this
   have cC:=ae o;subst cm;clear o;by_cases ac:1<=s.size/\s.size<=16
   .have q1:decide ((s.size:Int)>=1)=true:=by simp;omega
    have cI:decide ((s.size:Int)<=16)=true:=by simp;omega
    have aW:=ae (show jC s=!ie s by rw[cC.o];simp[ac]);clear ac;go_wp2_with(fail);refine(mP s w).mono ?_;rintro e ab ⟨rfl,O⟩;have b1:=ae O;clear O;go_wp2;go_ret;exact⟨ret_bool aW.symm,b1.o⟩
   .have aW:=ae (show jC s=false by rw[cC.o];simp;omega);by_cases au:1<=s.size
    .have q1:decide ((s.size:Int)>=1)=true:=by simp;omega
     have cI:decide ((s.size:Int)<=16)=false:=by simp;omega
     clear ac au;go_wp2;go_ret;exact⟨ret_bool aW.symm,Ll⟩
    .have q1:decide ((s.size:Int)>=1)=false:=by simp;omega
     clear ac au;go_wp2;go_ret;exact⟨ret_bool aW.symm,Ll⟩
end Go.Proofs.YtglbpimocmhojaaGreat
