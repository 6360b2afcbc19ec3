/- Part 5 of the proof. No condition of its own. -/
import Derived.Test.YtnhhdaggkiomoaaGreatQ04
namespace Go.Proofs.YtnhhdaggkiomoaaGreat
open Go.RowKit Go.Proofs.Tryz
set_option maxRecDepth 1000000
set_option maxHeartbeats 25600000
set_option linter.unusedVariables false
variable{s:ByteArray}{l:List UInt8}{cs:List Value}{B b cap k n o sz:Nat}{P:Nat→Prop}{A:Ls}{α:Type}{c:UInt8}{w:World}
theorem Sl.IX{enc:α→D}{f:α→List Value}(J:∀(w:World) (P:Nat→Prop) (x:α) (cs:List Value),(enc x).rep w P cs→cs=f x)(bt:∀x,(enc x).sz=sz)
  {w:World} {A:Ls} {n:Nat} {l:List α} (h:Sl w (au w) A n (l.map enc)):cq (EF f) sz w w.heap.size A n l:=by
 have hl:l.length=n:=by rw[←h.1,KK]
 refine⟨hl,fun hn=>?_⟩;obtain⟨b,o,bw,O⟩:=h.some_ hn;refine⟨b,o,bw,O,fun k x hx=>?_⟩;have ap:k<n:=by have:=(List.getElem?_eq_some_iff.1 hx).1;omega
 obtain⟨K,R,y,cs,am,_,bb,a5,a2,hc⟩:=h.gZ bt ap;rw[bw] at am;injection am with am;injection am with ac av;subst ac av;rw[hx] at bb;injection bb with bb;subst bb;exact⟨cs,J _ _ _ _ a5,a2,hc⟩
theorem mN{α:Type}{enc:α→D}{f:α→List Value}{w:World}{P:Nat→Prop}(J:∀x,(enc x).rep w P (f x)):∀l:List α,D.aQ w P (l.map enc) (l.flatMap f)
 | []=>by simp only[Le,D.aQ,List.flatMap_nil]
 | x::l=>by
  rw[KM,Lb];simp only[D.aQ];exact⟨_,_,rfl,J x,mN J l⟩
theorem cq.sl{enc:α→D}{f:α→List Value}{l:List α}(J:∀x,(enc x).rep w P (f x))(hs:∀x,(f x).length=sz)(h0:0<sz)
  (h:cq (EF f) sz w B A n l) (aZ:∀b,b<B→P b):Sl w P A n (l.map enc):=by
 refine⟨by rw[KK,h.1],fun hn=>?_⟩;obtain⟨b,o,bw,O,hc⟩:=h.2 hn;refine⟨b,o,l.flatMap f,bw,aZ b O,mN J l,fun j u bi=>?_⟩;have aV:=(List.getElem?_eq_some_iff.1 bi).1;rw[gh f sz l fun x _=>hs x] at aV;have cp:j / sz<l.length:=by rw[Nat.div_lt_iff_lt_mul h0];exact aV
 have hx:l[j / sz]?=some (l[j / sz]'cp):=List.getElem?_eq_getElem cp;have d:=Nat.mod_lt j h0;have a:j / sz*sz+j % sz=j:=Nat.div_add_mod' j sz;have cf:=fH f sz l (fun x _=>hs x) _ _ hx (j % sz) d;rw[a,bi] at cf;obtain⟨cs,he,_,c⟩:=hc _ _ hx;rw[EF] at he;subst he;have:=c _ _ cf.symm
 rwa [Nat.add_assoc,a] at this
theorem xQ{x:Int}:(D.i x).rep w P cs↔cs=cM x:=by simp only[D.rep,cM]
theorem Sl.ints{l:List Int}(h:Sl w (au w) A n (l.map D.i)):cq (EF cM) 1 w w.heap.size A n l:=Sl.IX (enc:=D.i) (f:=cM) (fun _ _ _ _=>xQ.1) (fun _=>rfl) h
theorem cq.ints{l:List Int}(h:cq (EF cM) 1 w B A n l)(aZ:∀b,b<B→P b):Sl w P A n (l.map D.i):=cq.sl (enc:=D.i) (f:=cM) (fun _=>xQ.2 rfl) (fun _=>rfl) (by decide) h aZ
theorem fb{m:bI}:(ey m).rep w P cs↔cs=gy m:=by
 unfold ey;rw[bK,cp];constructor
 ·rintro⟨y,rfl,h⟩;rw[fp] at h;exact zy
 ·rintro rfl;exact⟨_,rfl,fp.2 ⟨_,rfl,bm.2 ⟨_,rfl,aP.2 rfl⟩⟩⟩
theorem uu{m:cy}:(lj m).rep w P cs↔cs=bJ m:=by
 unfold lj;rw[bK,bm];exact C7
theorem Sl.ou{l:List bI}(h:Sl w (au w) A n (l.map ey)):cq (EF gy) 3 w w.heap.size A n l:=Sl.IX (enc:=ey) (f:=gy) (fun _ _ _ _=>fb.1) (fun _=>rfl) h
theorem cq.ou{l:List bI}(h:cq (EF gy) 3 w B A n l)(aZ:∀b,b<B→P b):Sl w P A n (l.map ey):=cq.sl (enc:=ey) (f:=gy) (fun _=>fb.2 rfl) (fun _=>rfl) (by decide) h aZ
theorem Sl.holds{l:List cy}(h:Sl w (au w) A n (l.map lj)):cq (EF bJ) 2 w w.heap.size A n l:=Sl.IX (enc:=lj) (f:=bJ) (fun _ _ _ _=>uu.1) (fun _=>rfl) h
theorem cq.holds{l:List cy}(h:cq (EF bJ) 2 w B A n l)(aZ:∀b,b<B→P b):Sl w P A n (l.map lj):=cq.sl (enc:=lj) (f:=bJ) (fun _=>uu.2 rfl) (fun _=>rfl) (by decide) h aZ
def oX(c:UInt8):Bool:=c == 32 || c == 9 || c == 10 || c == 13
def bY(c:UInt8):Bool:=(decide (97≤c.toNat) && decide (c.toNat≤122)) || (decide (65≤c.toNat) && decide (c.toNat≤90)) || decide (c.toNat=95)
def bC(c:UInt8):Bool:=decide (48≤c.toNat) && decide (c.toNat≤57)
def cd(c:UInt8):Bool:=bY c || bC c
def tm:List (List UInt8):=[[118,97,114],[109,117,116,101,120],[114,109,117,116,101,120],[102,117,110,99],[108,111,99,107],[117,110,108,111,99,107],[103,111],[105,102],[101,108,115,101],[119,104,105,108,101],[114,101,116,117,114,110]]
def dF(s:List UInt8):Bool:=decide (s∈tm)
def bF(s:List UInt8):Bool:=(match s with|[]=>false|c::l=>bY c && l.all cd) && decide (s.length≤16) && !dF s
def fq:List (List UInt8):=[[60,61],[62,61],[61,61],[33,61],[38,38],[124,124]]
def eL:List (List UInt8):=[[40],[41],[123],[125],[91],[93],[44],[59],[61],[43],[45],[42],[47],[37],[60],[62],[33]]
def eY(l:List UInt8):Nat:=if decide (l.take 2∈fq) && decide (2≤l.length) then 2 else if decide (l.take 1∈eL) then 1 else 0
def aT:Bool→List UInt8→List UInt8
 | _,[]=>[]
 | true,c::l=>if c=10 then aT false l else aT true l
 | false,c::l=>if oX c then aT false l else if c=47∧l.head?=some 47 then aT true l else c::l
theorem jF:∀(b:Bool) (l:List UInt8),(aT b l).length≤l.length
 | _,[]=>by unfold aT;simp
 | true,c::l=>by
  unfold aT;split
  ·have:=jF false l;simp;omega
  ·have:=jF true l;simp;omega
 | false,c::l=>by
  unfold aT;split
  ·have:=jF false l;simp;omega
  ·split
   ·have:=jF true l;simp;omega
   ·simp
def iI:Int→List UInt8→Int
 | n,[]=>n
 | n,c::l=>if n > (9223372036854775807 - ((c.toNat:Int) - 48)) / 10 then -1 else iI (10*n+((c.toNat:Int) - 48)) l
def p9(l:List UInt8):Int:=iI 0 l
structure Tok where
 kind:Int
 text:List UInt8
 num:Int
 pos:Int
def fJ:Nat→Nat→List UInt8→List Tok→List Tok×Int×Int
 | 0,_,_,_=>([],0,1)
 | f+1,n,l,acc=>
  match aT false l with
  | []=>(acc++[⟨5,[],0,n⟩],n,0)
  | c::r=>
   let at_:Int:=(n:Int) - (r.length+1)
   if bY c then
    let t:=(c::r).takeWhile cd
    if !dF t && decide (16<t.length) then ([],at_,3)
    else if acc.length=4000 then ([],at_,3)
    else fJ f n ((c::r).dropWhile cd) (acc++[⟨if dF t then 3 else 1,t,0,at_⟩])
   else if bC c then
    let t:=(c::r).takeWhile bC
    if p9 t<0 then ([],at_,2)
    else if acc.length=4000 then ([],at_,3)
    else fJ f n ((c::r).dropWhile bC) (acc++[⟨2,t,p9 t,at_⟩])
   else if eY (c::r)=0 then ([],at_,1)
   else if acc.length=4000 then ([],at_,3)
   else fJ f n ((c::r).drop (eY (c::r))) (acc++[⟨4,(c::r).take (eY (c::r)),0,at_⟩])
def dt(l:List UInt8):List Tok×Int×Int:=if 262144<l.length then ([],262144,3) else fJ (l.length+1) l.length l []
inductive Atom where
 | ws (c:UInt8)
 | word (s:List UInt8)
 | num (s:List UInt8)
 | sg (s:List UInt8)
def Atom.bytes:Atom→List UInt8
 | .ws c=>[c]
 | .word s=>s
 | .num s=>s
 | .sg s=>s
def Atom.fV:Atom→Prop
 | .ws c=>oX c=true
 | .word s=>(∃c l,s=c::l∧bY c=true∧l.all cd=true)∧(dF s=true∨s.length≤16)
 | .num s=>(∃c l,s=c::l)∧s.all bC=true∧0≤p9 s
 | .sg s=>s∈fq∨s∈eL
def Atom.km:Atom→Bool
 | .word _=>true
 | .num _=>true
 | _=>false
def Atom.head:Atom→Option UInt8
 | .ws c=>some c
 | .word s=>s.head?
 | .num s=>s.head?
 | .sg s=>s.head?
def Atom.fits(a b:Atom):Prop:=
 (a.km=true→b.km=false)∧∀s,a=.sg s→s∈eL→∀c,b.head=some c→(s++[c])∉fq∧¬(s=[47]∧c=47)
def Atom.count:List Atom→Nat
 | []=>0
 | .ws _::l=>Atom.count l
 | _::l=>Atom.count l+1
def Atom.chain:List Atom→Prop
 | []=>True
 | [a]=>a.fV
 | a::b::l=>a.fV∧a.fits b∧Atom.chain (b::l)
theorem w5(c:UInt8)(h:oX c=true):bY c=false∧bC c=false:=by
 simp only[oX,Bool.or_eq_true,beq_iff_eq] at h;rcases h with((rfl|rfl)|rfl)|rfl<;>decide
theorem vZ(c:UInt8)(h:bY c=true):oX c=false∧c≠47:=by
 refine⟨?_,?_⟩
 ·cases hw:oX c with
  | false=>rfl
  | true=>have:=(w5 c hw).1;rw[h] at this;cases this
 ·rintro rfl;revert h;decide
theorem yf(c:UInt8)(h:bC c=true):oX c=false∧c≠47∧bY c=false:=by
 refine⟨?_,?_,?_⟩
 ·cases hw:oX c with
  | false=>rfl
  | true=>have:=(w5 c hw).2;rw[h] at this;cases this
 ·rintro rfl;revert h;decide
 ·simp only[bC,KS,Ll] at h;simp only[bY,Bool.or_eq_false_iff,Bool.and_eq_false_iff,decide_eq_false_iff_not];omega
theorem g3{p:α→Bool}{s r:List α}(h:s.all p=true)(a5:∀c,r.head?=some c→p c=false):(s++r).takeWhile p=s∧(s++r).dropWhile p=r:=by
 induction s with
 | nil=>
  cases r with
  | nil=>simp
  | cons c r=>have:=a5 c rfl;simp[this]
 | cons a s ao=>
  simp only[List.all_cons,KS] at h;have:=ao h.2;simp[h.1,this]
theorem iD:∀(e:List Atom) (f n:Nat) (acc:List Tok),Atom.chain e→(e.flatMap Atom.bytes).length<f→acc.length+Atom.count e≤4000→(fJ f n (e.flatMap Atom.bytes) acc).2.2=0
 | [],f,n,acc,_,J,_=>by
  cases f with
  | zero=>omega
  | succ f=>simp[fJ,aT]
 | a::e,f,n,acc,hc,J,hn=>by
  have a2:a.fV:=by cases e<;>simp only[Atom.chain] at hc<;>first|exact hc|exact hc.1
  have q:Atom.chain e:=by
   cases e with
   | nil=>trivial
   | cons b l=>exact hc.2.2
  have i:∀b l,e=b::l→a.fits b:=fun b l h=>by subst h;exact hc.2.1
  have u:∀c,(e.flatMap Atom.bytes).head?=some c→∃b l,e=b::l∧b.head=some c∧b.fV:=by
   intro c h
   cases e with
   | nil=>simp at h
   | cons b l=>
    have j:b.fV:=by cases l<;>simp only[Atom.chain] at q<;>first|exact q|exact q.1
    refine⟨b,l,rfl,?_,j⟩
    cases b with
    | ws d=>simpa[Atom.bytes,Atom.head] using h
    | word s=>
     obtain⟨⟨d,m,rfl,_⟩,_⟩:=j
     simpa[Atom.bytes,Atom.head] using h
    | num s=>
     obtain⟨⟨d,m,rfl⟩,_⟩:=j
     simpa[Atom.bytes,Atom.head] using h
    | sg s=>
     have:∃d m,s=d::m:=by
      cases s with
      | nil=>rcases j with h|h<;>simp[fq,eL] at h
      | cons d m=>exact⟨d,m,rfl⟩
     obtain⟨d,m,rfl⟩:=this;simpa[Atom.bytes,Atom.head] using h
  have w:∀b:Atom,b.km=false→b.fV→∀c,b.head=some c→cd c=false:=by
   intro b O j c hc
   cases b with
   | ws d=>
    simp only[Atom.head,Lj] at hc;subst hc;have:=w5 d j
    simp[cd,this.1,this.2]
   | word s=>simp[Atom.km] at O
   | num s=>simp[Atom.km] at O
   | sg s=>
    have key:∀s∈fq++eL,∀c,s.head?=some c→cd c=false:=by decide
    refine key s ?_ c hc;rcases j with h|h<;>simp[h]
  cases f with
  | zero=>omega
  | succ f=>
   have hl:((a::e).flatMap Atom.bytes).length=a.bytes.length+(e.flatMap Atom.bytes).length:=by rw[Lb,KI]
   cases a with
   | ws c=>
    have hw:oX c=true:=a2;have hlen:(e.flatMap Atom.bytes).length<f+1:=ad;have ao:=iD e (f+1) n acc q hlen (by simpa[Atom.count] using hn);have hs:aT false (c::e.flatMap Atom.bytes)=aT false (e.flatMap Atom.bytes):=by
     rw[aT,if_pos hw]
    simp only[Lb,Atom.bytes,List.singleton_append];unfold fJ at ao ⊢;rw[hs]
    exact ao
   | word s=>
    obtain⟨⟨c,l,rfl,bp,z⟩,ap⟩:=a2;have dg:=vZ c bp;have v:∀d,(e.flatMap Atom.bytes).head?=some d→cd d=false:=fun d hd=>by
     obtain⟨b,l,has,O,j⟩:=u d hd;exact w b ((i b l has).1 rfl) j d O
    have o:=g3 (p:=cd) (s:=c::l) (r:=e.flatMap Atom.bytes) (by simp[z,cd,bp]) v;simp only[KV] at o;have g:aT false (c::(l++e.flatMap Atom.bytes))=c::(l++e.flatMap Atom.bytes):=by
     rw[aT,if_neg (by simp[dg.1]),if_neg (by simp[dg.2])]
    simp only[Atom.count] at hn;have ao:=fun t=>iD e f n (acc++[t]) q (by simp only[Atom.bytes,KT] at hl;omega) (by simp;omega);simp only[Lb,Atom.bytes,KV];unfold fJ;simp only[g,bp,if_true,o.1,o.2];rw[if_neg ?_,if_neg ad]
    ·exact ao _
    ·rcases ap with h|h
     ·simp[h]
     ·have an:¬16<(c::l).length:=ad
      simp only[an,decide_false,Bool.and_false,Lm,not_false_eq_true]
   | num s=>
    obtain⟨⟨c,l,rfl⟩,hd,bM⟩:=a2;simp only[List.all_cons,KS] at hd;have dg:=yf c hd.1;have v:∀d,(e.flatMap Atom.bytes).head?=some d→bC d=false:=fun d hd=>by
     obtain⟨b,l,has,O,j⟩:=u d hd;have:=w b ((i b l has).1 rfl) j d O;simp only[cd,Bool.or_eq_false_iff] at this;exact this.2
    have o:=g3 (p:=bC) (s:=c::l) (r:=e.flatMap Atom.bytes) (by simp[hd]) v;simp only[KV] at o;have g:aT false (c::(l++e.flatMap Atom.bytes))=c::(l++e.flatMap Atom.bytes):=by
     rw[aT,if_neg (by simp[dg.1]),if_neg (by simp[dg.2.1])]
    simp only[Atom.count] at hn;have ao:=fun t=>iD e f n (acc++[t]) q (by simp only[Atom.bytes,KT] at hl;omega) (by simp;omega);simp only[Lb,Atom.bytes,KV];unfold fJ;simp only[g,dg.2.2,Lm,if_false,hd.1,if_true,o.1,o.2];rw[if_neg ad,if_neg ad]
    exact ao _
   | sg s=>
    simp only[Atom.count] at hn;have ao:=fun t=>iD e f n (acc++[t]) q (by
     have:1≤s.length:=by
      cases s with
      | nil=>rcases a2 with h|h<;>simp[fq,eL] at h
      | cons d m=>simp
     simp only[Atom.bytes] at hl;omega) (by simp;omega)
    have av:∀s∈fq,∃c d,s=[c,d]∧oX c=false∧c≠47∧bY c=false∧bC c=false:=by
     intro s hs;simp only[fq,KW,List.not_mem_nil,or_false] at hs;rcases hs with rfl|rfl|rfl|rfl|rfl|rfl<;>exact⟨_,_,rfl,by decide,by decide,by decide,by decide⟩
    have ac:∀s∈eL,∃c,s=[c]∧oX c=false∧bY c=false∧bC c=false:=by
     intro s hs;simp only[eL,KW,List.not_mem_nil,or_false] at hs;rcases hs with rfl|rfl|rfl|rfl|rfl|rfl|rfl|rfl|rfl|rfl|rfl|rfl|rfl|rfl|rfl|rfl|rfl<;>exact⟨_,rfl,by decide,by decide,by decide⟩
    by_cases bO:s∈fq
    ·obtain⟨c,d,rfl,cv,bP,cU,H⟩:=av s bO;have g:aT false (c::d::e.flatMap Atom.bytes)=c::d::e.flatMap Atom.bytes:=by
      rw[aT,if_neg (by simp[cv]),if_neg (by simp[bP])]
     have k:eY (c::d::e.flatMap Atom.bytes)=2:=by simp[eY,bO]
     exact zd
    ·have cn:s∈eL:=a2.resolve_left bO;obtain⟨c,rfl,cv,cU,H⟩:=ac s cn;have cp:∀d,(e.flatMap Atom.bytes).head?=some d→[c,d]∉fq∧¬(c=47∧d=47):=fun d hd=>by
      obtain⟨b,l,has,O,_⟩:=u d hd;have:=(i b l has).2 [c] rfl cn d O;simpa using this
     have g:aT false (c::e.flatMap Atom.bytes)=c::e.flatMap Atom.bytes:=by
      rw[aT,if_neg (by simp[cv]),if_neg ?_];rintro⟨e1,e2⟩;exact(cp 47 e2).2 ⟨e1,rfl⟩
     have k:eY (c::e.flatMap Atom.bytes)=1:=by
      unfold eY;rw[if_neg ?_,if_pos (decide_eq_true (by simpa using cn))];intro h;simp only[KS,Ll,KT] at h
      cases a5:e.flatMap Atom.bytes with
      | nil=>rw[a5] at h;simp at h
      | cons d r=>
       rw[a5] at h;exact(cp d (by rw[a5];rfl)).1 (by simpa using h.1)
     exact zd
theorem lX(c:UInt8)(w:World):Calls prog 131 #[.int .u8 c.toNat] w fun e ab=>e=.returned (.bool (bY c))∧w=ab:=by
 go_enter func131,ntmps131;go_wp2
 all_goals
  go_ret;refine⟨ret_bool ?_,rfl⟩;rw[Bool.eq_iff_iff];simp[bY];omega
theorem kR(c:UInt8)(w:World):Calls prog 132 #[.int .u8 c.toNat] w fun e ab=>e=.returned (.bool (bC c))∧w=ab:=by
 go_enter func132,ntmps132;go_wp2
 all_goals
  go_ret;refine⟨ret_bool ?_,rfl⟩;rw[Bool.eq_iff_iff];simp[bC];omega
theorem s8{x:ByteArray}(h:x≠s):(x.toList == s.toList)=false:=by
 refine beq_eq_false_iff_ne.2 fun e=>h ?_;rw[ByteArray.ext_iff];rw[Go.Lib.toList_data,Go.Lib.toList_data] at e;exact Array.toList_inj.1 e
def hasB(l:Lt)(s:ByteArray):Bool:=l.any fun x=>decide (x=s)
theorem yo{l:Lt}(h:∀(j:Nat) (x:ByteArray),l[j]?=some x→x≠s):hasB l s=false:=by
 unfold hasB;rw[List.any_eq_false];exact zK
theorem yp{l:Lt}{j:Nat}(h:l[j]?=some s):hasB l s=true:=by
 unfold hasB;rw[List.any_eq_true];exact⟨s,KJ h,by simp⟩
theorem oK(A:Ls)(n c:Nat)(l:Lt)(s:ByteArray)(w:World)(h:cq (EF om) 1 w w.heap.size A n l)(hn:n≤1000000) :
  Calls prog 153 #[.slice A n c,.string s] w fun e ab=>e=.returned (.bool (hasB l s))∧w=ab:=by
 have H:=ae h;clear h;go_enter func153,ntmps153;go_wp2
 go_loop [5] (fun i=>∃k:Nat,k≤n∧i=.int .i64 k∧∀(j:Nat) (x:ByteArray),j<k→l[j]?=some x→x≠s) (fun i=>n - (intOf i).toNat)
 case atStart=>exact⟨0,Ld _,rfl,fun j x h=>ad⟩
 case round=>
  obtain⟨k,ap,rfl,bf⟩:=hrel;have b4:=ae bf;clear bf;by_cases ak:k<n
  ·obtain⟨b,o,x,rfl,O,hx,hc⟩:=H.str ak;have aQ:=ae hx;clear hx;by_cases hs:x=s
   ·subst hs;go_wp2;go_ret;exact⟨ret_bool (yp aQ.o).symm,rfl⟩
   ·have q:=s8 hs;have bm:=ae hs;clear hs;go_wp2
    go_round
    case rel=>exact⟨k+1,ad,by go_num,fun j y bi bb=>by
     by_cases z:j=k
     ·subst z;rw[aQ.o] at bb;injection bb with bb;subst bb;exact bm.o
     ·exact b4.o j y ad bb⟩
    case measure=>exact aH
  ·have cp:k=n:=ad;have c7:=ae cp;clear cp;go_wp2;go_ret;exact⟨ret_bool (yo fun j x bi=>b4.o j x (by have:=(List.getElem?_eq_some_iff.1 bi).1;have:=H.1;have:=c7.o;omega) bi).symm,rfl⟩
theorem mK(w:World)(cs:Array Value)(t:TypeId)(l:Lt)(hc:cs=(l.map Value.string).toArray)(hl:l.length=n):cq (EF om) 1 (w.alloc (.cells cs t)) (w.alloc (.cells cs t)).heap.size (some ⟨w.heap.size,0,none⟩) n l:=by
 subst hc;refine⟨hl,fun _=>⟨w.heap.size,0,rfl,by simp,fun k x hx=>⟨om x,rfl,rfl,fun j v bi=>?_⟩⟩⟩;have cl:j=0∧v=.string x:=by
  exact zz
 obtain⟨rfl,rfl⟩:=cl;rw[(aq.new w t _).cell];simp[hx]
def strOf(l:List UInt8):ByteArray:=⟨l.toArray⟩
theorem mD(L:List (List UInt8))(s:ByteArray):hasB (L.map strOf) s=decide (s.data.toList∈L):=by
 unfold hasB;rw[Bool.eq_iff_iff,List.any_eq_true,Ll];constructor
 ·rintro⟨x,hx,he⟩;obtain⟨y,bb,rfl⟩:=Lf.1 hx;simp only[Ll] at he;subst he;exact bb
 ·intro h;refine⟨strOf s.data.toList,Lf.2 ⟨_,h,rfl⟩,?_⟩;simp[strOf]
def ij(s:ByteArray):Bool:=dF s.data.toList
theorem mP(s:ByteArray)(w:World):Calls prog 133 #[.string s] w fun e ab=>e=.returned (.bool (ij s))∧Ext w ab:=by
 go_enter func133,ntmps133;go_wp2_with(fail);refine(oK _ 11 11 (tm.map strOf) s _ (mK w _ _ _ rfl rfl) ad).mono ?_;rintro e ab ⟨rfl,rfl⟩;go_wp2;go_ret;exact⟨ret_bool (mD _ _),Lo.alloc _⟩
def jC(s:ByteArray):Bool:=bF s.data.toList
theorem rH{x:UInt8}(hx:l[k]?=some x)(hl:bY x=false)(ap:k=0∨bC x=false):bF l=false:=by
 cases l with
 | nil=>simp at hx
 | cons c l=>
  unfold bF;simp only[Bool.and_eq_false_iff];left;left
  cases k with
  | zero=>
   simp at hx;subst hx
   exact .inl hl
  | succ k=>
   right;rw[List.getElem?_cons_succ] at hx;have hd:=ap.resolve_left ad;rw[List.all_eq_false];exact⟨x,KJ hx,by simp[cd,hl,hd]⟩
theorem wg(h:∀(j:Nat) (x:UInt8),l[j]?=some x→bY x=true∨(0<j∧bC x=true)):bF l=(decide (1≤l.length) && decide (l.length≤16) && !dF l):=by
 cases l with
 | nil=>rfl
 | cons c l=>
  have h0:=(h 0 c rfl).resolve_right ad;have y:l.all cd=true:=by
   rw[List.all_eq_true];intro x hx;obtain⟨j,bi⟩:=List.getElem?_of_mem hx;have:=h (j+1) x (by rw[List.getElem?_cons_succ];exact bi);unfold cd;rcases this with ac|ac<;>simp[ac]
  unfold bF;simp[h0,y]
theorem byte_at(h:k<s.size):s.data.toList[k]?=some s[k]:=by
 rw[List.getElem?_eq_getElem (by simpa using h)];rfl
theorem g6(s:ByteArray)(w:World)(hs:s.size≤1000000):Calls prog 109 #[.string s] w fun e ab=>e=.returned (.bool (jC s))∧Ext w ab:=by
 go_enter func109,ntmps109;go_wp2
 go_loop [3] (fun i=>∃k:Nat,k≤s.size∧i=.int .i64 k∧∀(j:Nat) (x:UInt8),j<k→s.data.toList[j]?=some x→bY x=true∨(0<j∧bC x=true)) (fun i=>s.size - (intOf i).toNat)
 case atStart=>exact⟨0,Ld _,rfl,fun j x h=>ad⟩
 case round=>
  obtain⟨k,ap,rfl,bf⟩:=hrel;have b4:=ae bf;clear bf;by_cases ak:k<s.size
  ·have cC:=ae (byte_at ak);have step:(bY s[k]=true∨(0<k∧bC s[k]=true))→∀(j:Nat) (x:UInt8),j<k+1→s.data.toList[j]?=some x→bY x=true∨(0<j∧bC x=true):=by
    intro h j x bi hx;by_cases z:j=k
    ·subst z;rw[cC.o] at hx;injection hx with hx;subst hx;exact h
    ·exact b4.o j x ad hx
   have bm:=ae step;clear step;go_wp2_with(fail);refine(lX s[k] w).mono ?_;rintro e ab ⟨rfl,rfl⟩;by_cases hl:bY s[k]=true
   ·rw[hl];have ca:=ae hl;clear hl;go_wp2
    go_round
    case rel=>exact⟨k+1,ad,by go_num,bm.o (.inl ca.o)⟩
    case measure=>exact aH
   ·have aC:bY s[k]=false:=by simpa using hl
    rw[aC];have ca:=ae aC;clear hl aC;by_cases bo:k=0
    ·have c7:=ae bo;subst bo;go_wp2;go_ret;exact⟨ret_bool (rH cC.o ca.o (.inl rfl)).symm,Lo⟩
    ·have q:((k:Int) == 0)=false:=by simpa using bo
     have ar:(k == 0)=false:=by simpa using bo
     have c7:=ae bo;clear bo;go_wp2_with(fail);refine(kR s[k] w).mono ?_;rintro e ab ⟨rfl,rfl⟩;by_cases hd:bC s[k]=true
     ·rw[hd];have cx:=ae hd;clear hd;go_wp2
      go_round
      case rel=>exact⟨k+1,ad,by go_num,bm.o (.inr ⟨by have:=c7.o;omega,cx.o⟩)⟩
      case measure=>exact aH
     ·have u:bC s[k]=false:=by simpa using hd
      rw[u];have cx:=ae u;clear hd u;go_wp2;go_ret;exact⟨ret_bool (rH cC.o ca.o (.inr cx.o)).symm,Lo⟩
  ·have cp:k=s.size:=ad;have o:jC s=(decide (1≤s.size) && decide (s.size≤16) && !ij s):=by
    have:=wg (l:=s.data.toList) (fun j x hx=>b4.o j x (by have:=(List.getElem?_eq_some_iff.1 hx).1;simp at this;rw[cp];exact this) hx);simpa[jC,ij] using this
   have cC:=ae o;subst cp;clear o;by_cases ac:1≤s.size∧s.size≤16
   ·have q1:decide ((s.size:Int)≥1)=true:=by simp;omega
    have cB:decide ((s.size:Int)≤16)=true:=by simp;omega
    have aW:=ae (show jC s=!ij s by rw[cC.o];simp[ac]);clear ac;go_wp2_with(fail);refine(mP s w).mono ?_;rintro e ab ⟨rfl,O⟩;have b2:=ae O;clear O;go_wp2;go_ret;exact⟨ret_bool aW.symm,b2.o⟩
   ·have aW:=ae (show jC s=false by rw[cC.o];simp;omega);by_cases av:1≤s.size
    ·have q1:decide ((s.size:Int)≥1)=true:=by simp;omega
     have cB:decide ((s.size:Int)≤16)=false:=by simp;omega
     clear ac av;go_wp2;go_ret;exact⟨ret_bool aW.symm,Lo⟩
    ·have q1:decide ((s.size:Int)≥1)=false:=by simp;omega
     clear ac av;go_wp2;go_ret;exact⟨ret_bool aW.symm,Lo⟩
structure ft(w:World)(b o cap:Nat)(s:ByteArray):Prop where
 bytes:Lib.Bytes w b o s
 lt:b<w.heap.size
 fit:s.size≤cap
 small:s.size≤1000000
theorem ft.on{ab:World}(h:ft w b o cap s)(O:Ext w ab):ft ab b o cap s:=
 ⟨fun i an=>(O.cell h.lt (fun h=>h)).trans (h.bytes i an),KH h.lt O.size,h.fit,h.small⟩
theorem gg(s:ByteArray)(j n:Nat):(s.extract j (j+n)).data.toList=(s.data.toList.drop j).take n:=by
 rw[Lib.extract_data,Nat.add_sub_cancel_left]
theorem wM(s:ByteArray):strOf s.data.toList=s:=by
 unfold strOf;cases s
 simp
theorem nG(hc:s.size≤cap)(hn:0<n)(ap:k+n≤s.size)(W:World):
  (Instr.slice 136 (.slice (some ⟨b,o,none⟩) s.size cap) (some (.int .i64 (k:Int))) (some (.int .i64 ((k:Int)+(n:Int)))) none).run prog W=.ok (.slice (some ⟨b,o+k,none⟩) n (cap - k)) W:=by
 have:=Lib.run_slice_window (P:=prog) W 136 5 Tryz.underlying136 (fun w=>by kernel_rfl) b o s.size cap k (k+n) ad ad;rw[show k+n - k=n by omega,Int.natCast_add] at this;exact this
theorem j5(h:ft w b o cap s)(c:Nat)(ap:k+n≤s.size):
  (convert 136 9 (.slice (some ⟨b,o+k,none⟩) n c)).run prog w=.ok (.string (s.extract k (k+n))) w:=
 Lib.run_convert_window w _ _ _ Tryz.underlying136 Tryz.underlying5 Tryz.underlying9 b o s h.bytes k n c ap
theorem Ek(s:ByteArray)(b o cap k:Nat)(w:World)(h:ft w b o cap s)(ap:k<s.size) :
  Calls prog 140 #[.slice (some ⟨b,o,none⟩) s.size cap,.int .i64 k] w fun e ab=>e=.returned (.int .i64 (eY (s.data.toList.drop k)))∧Ext w ab:=by
 have H:=ae h;have bW:=h.small;have M:=h.fit;have s1:=fun W=>nG (b:=b) (o:=o) h.fit (k:=k) (n:=1) ad ad W;have cd:∀W,Ext w W→∀(cs:Array Value) (t:TypeId),(convert 136 9 (.slice (some ⟨b,o+k,none⟩) 1 (cap - k))).run prog (W.alloc (.cells cs t))=.ok (.string (s.extract k (k+1))) (W.alloc (.cells cs t)):=fun W ba cs t=>j5 (h.on (ba.alloc (.cells cs t))) (k:=k) (n:=1) (cap - k) ad;have U:=ae cd;clear cd;have ci:(0:Int)≤(k:Int):=ad;clear h;by_cases av:k+1<s.size
 ·have s2:=fun W=>nG (b:=b) (o:=o) M (k:=k) (n:=2) ad ad W;have c2:=fun(cs:Array Value) (t:TypeId)=>j5 (H.on (Lo.alloc (.cells cs t))) (k:=k) (n:=2) (cap - k) ad;simp only[Int.cast_ofNat_Int] at s1 s2;go_enter func140,ntmps140;go_wp2_with(fail);refine(oK _ 6 6 (fq.map strOf) _ _ (mK w _ _ _ rfl rfl) ad).mono ?_;rintro e ab ⟨rfl,rfl⟩;rw[mD,gg];have cg:decide (2≤(s.data.toList.drop k).length)=true:=by simp;omega
  by_cases hm:(s.data.toList.drop k).take 2∈fq
  ·have aW:=ae (show eY (s.data.toList.drop k)=2 by unfold eY;rw[decide_eq_true hm,cg];rfl);rw[decide_eq_true hm];clear hm cg;exact vc
  ·have aW:=ae (show eY (s.data.toList.drop k)=if decide ((s.data.toList.drop k).take 1∈eL) then 1 else 0 by unfold eY;rw[decide_eq_false hm];rfl);rw[decide_eq_false hm];clear hm cg c2 s2;generalize ba:World.alloc w _=W;have aw:=aU ba;have c1:=U.o W aw;clear ba;go_wp2_with(fail);refine(oK _ 17 17 (eL.map strOf) _ _ (mK W _ _ _ rfl rfl) ad).mono ?_;rintro e ab ⟨rfl,rfl⟩;rw[mD,gg];by_cases hm:(s.data.toList.drop k).take 1∈eL
   ·rw[decide_eq_true hm] at aW ⊢;exact zM
   ·rw[decide_eq_false hm] at aW ⊢;exact zM
 ·have cg:decide (2≤(s.data.toList.drop k).length)=false:=by simp;omega
  have dd:decide ((k:Int)+1<(s.size:Int))=false:=by simp;omega
  have df:¬(k:Int)+1<(s.size:Int):=ad;have aW:=ae (show eY (s.data.toList.drop k)=if decide ((s.data.toList.drop k).take 1∈eL) then 1 else 0 by unfold eY;rw[cg,Bool.and_false];rfl);simp only[Int.cast_ofNat_Int] at s1;clear cg;go_enter func140,ntmps140;have c1:=U.o w Lo;go_wp2_with(fail);refine(oK _ 17 17 (eL.map strOf) _ _ (mK w _ _ _ rfl rfl) ad).mono ?_;rintro e ab ⟨rfl,rfl⟩;rw[mD,gg];by_cases hm:(s.data.toList.drop k).take 1∈eL
  ·rw[decide_eq_true hm] at aW ⊢;clear hm;exact vc
  ·rw[decide_eq_false hm] at aW ⊢;clear hm;exact vc
theorem ft.byte(h:ft w b o cap s)(ap:k<s.size):w.cell? ⟨b,o+k,none⟩=some (.int .u8 (s[k].toNat:Int)):=h.bytes k ap
theorem c7(h:k<s.size):s.data.toList.drop k=s[k]::s.data.toList.drop (k+1):=by
 rw[List.drop_eq_getElem_cons (by simpa using h)];rfl
theorem qN(c:UInt8):oX c=true↔c.toNat=32∨c.toNat=9∨c.toNat=10∨c.toNat=13:=by
 simp only[oX,Bool.or_eq_true,beq_iff_eq,←UInt8.toNat_inj];show ((c.toNat=32∨c.toNat=9)∨c.toNat=10)∨c.toNat=13↔_
 omega
theorem oE(c:UInt8):c=47↔c.toNat=47:=by rw[←UInt8.toNat_inj];rfl
theorem xw(c:UInt8):c=10↔c.toNat=10:=by rw[←UInt8.toNat_inj];rfl
theorem k7(h:oX c=true):aT false (c::l)=aT false l:=by rw[aT,if_pos h]
theorem nB(h:oX c=false)(av:¬(c=47∧l.head?=some 47)):aT false (c::l)=c::l:=by rw[aT,if_neg (by simp[h]),if_neg av]
theorem xS(h:c≠10):aT true (c::l)=aT true l:=by rw[aT,if_neg h]
theorem Em(h:c=47)(av:l.head?=some 47):aT false (c::l)=aT true (c::l):=by
 subst h;have a:aT false (47::l)=aT true l:=by rw[aT,if_neg (by decide),if_pos ⟨rfl,av⟩]
 exact a.trans (xS (by decide)).symm
theorem Eo:aT true (10::l)=aT false (10::l):=by
 have a:aT true (10::l)=aT false l:=by rw[aT,if_pos rfl]
 exact a.trans (k7 (by decide)).symm
theorem En(b:Bool):aT b []=[]:=by cases b<;>rfl
theorem kJ(s:ByteArray)(b o cap k:Nat)(w:World)(h:ft w b o cap s)(ap:k≤s.size) :
  Calls prog 138 #[.slice (some ⟨b,o,none⟩) s.size cap,.int .i64 k] w fun e ab=>e=.returned (.int .i64 ((s.size:Int) - (aT false (s.data.toList.drop k)).length))∧w=ab:=by
 have H:=ae h;have bW:=h.small;clear h;go_enter func138,ntmps138;go_wp2
 go_loop [1] (fun i=>∃j:Nat,j≤s.size∧i=.int .i64 j∧aT false (s.data.toList.drop k)=aT false (s.data.toList.drop j)) (fun i=>s.size - (intOf i).toNat)
 case atStart=>exact⟨k,ap,rfl,rfl⟩
 case round=>
  obtain⟨j,bi,rfl,g⟩:=hrel;have t:=ae g;clear g;by_cases ak:j<s.size
  ·have hc:=H.byte ak;have aJ:(0:Int)≤(j:Int):=ad;have br:(j:Int)<(s.size:Int):=ad;by_cases bg:s[j].toNat=32
   ·have F:(((s[j].toNat:Nat):Int) == 32)=true:=by simp[bg]
    have ah:=ae (t.trans ((congrArg _ (c7 ak)).trans (k7 ((qN _).2 ad))));clear bg;go_wp2
    go_round
    case rel=>exact⟨j+1,ad,by go_num,ah.o⟩
    case measure=>exact aH
   by_cases bh:s[j].toNat=9
   ·have cD:(((s[j].toNat:Nat):Int) == 9)=true:=by simp[bh]
    have q:(((s[j].toNat:Nat):Int) == 32)=false:=by simp;omega
    have ah:=ae (t.trans ((congrArg _ (c7 ak)).trans (k7 ((qN _).2 ad))));clear bh bg;go_wp2
    go_round
    case rel=>exact⟨j+1,ad,by go_num,ah.o⟩
    case measure=>exact aH
   by_cases c:s[j].toNat=10
   ·have EL:(((s[j].toNat:Nat):Int) == 10)=true:=by simp[c]
    have q:(((s[j].toNat:Nat):Int) == 32)=false:=by simp;omega
    have A:(((s[j].toNat:Nat):Int) == 9)=false:=by simp;omega
    have ah:=ae (t.trans ((congrArg _ (c7 ak)).trans (k7 ((qN _).2 ad))));clear c bg bh;go_wp2
    go_round
    case rel=>exact⟨j+1,ad,by go_num,ah.o⟩
    case measure=>exact aH
   by_cases n:s[j].toNat=13
   ·have E:(((s[j].toNat:Nat):Int) == 13)=true:=by simp[n]
    have q:(((s[j].toNat:Nat):Int) == 32)=false:=by simp;omega
    have A:(((s[j].toNat:Nat):Int) == 9)=false:=by simp;omega
    have x:(((s[j].toNat:Nat):Int) == 10)=false:=by simp;omega
    have ah:=ae (t.trans ((congrArg _ (c7 ak)).trans (k7 ((qN _).2 ad))));clear n bg bh c;go_wp2
    go_round
    case rel=>exact⟨j+1,ad,by go_num,ah.o⟩
    case measure=>exact aH
   have q:(((s[j].toNat:Nat):Int) == 32)=false:=by simp;omega
   have A:(((s[j].toNat:Nat):Int) == 9)=false:=by simp;omega
   have x:(((s[j].toNat:Nat):Int) == 10)=false:=by simp;omega
   have D:(((s[j].toNat:Nat):Int) == 13)=false:=by simp;omega
   have m1:oX s[j]=false:=by
    cases hw:oX s[j] with
    | false=>rfl
    | true=>have:=(qN _).1 hw;omega
   have aE:=ae m1;clear m1 bg bh c n;have d:∀l:List UInt8,l=s.data.toList.drop j→((s.size:Int) - l.length)=j:=fun l hl=>by subst hl;simp;omega
   by_cases av:j+1<s.size
   ·have b9:=H.byte av;have bo:((j+1:Nat):Int)=(j:Int)+1:=ad;have dB:decide ((j:Int)+1<(s.size:Int))=true:=by simp;omega
    by_cases a:s[j].toNat=47
    ·have y:(((s[j].toNat:Nat):Int) == 47)=true:=by simp[a]
     by_cases f:s[j+1].toNat=47
     ·have z:(((s[j+1].toNat:Nat):Int) == 47)=true:=by simp[f]
      have bR:=ae (show aT false (s.data.toList.drop k)=aT true (s.data.toList.drop j) by
       rw[t.o,c7 ak];refine Em ((oE _).2 a) ?_;rw[c7 av,List.head?_cons,(oE _).2 f])
      have b4:=ae (show s[j].toNat≠10 by omega);clear a f;go_wp2
      go_loop [1] (fun i=>∃m:Nat,j≤m∧m≤s.size∧i=.int .i64 m∧aT false (s.data.toList.drop k)=aT true (s.data.toList.drop m)) (fun i=>s.size - (intOf i).toNat)
      case atStart=>exact⟨j,KG _,bi,rfl,bR.o⟩
      case round=>
       obtain⟨m,B,hm,rfl,P⟩:=hrel;have cR:=ae P;clear P;by_cases ce:m<s.size
       ·have v:=H.byte ce;have cE:(0:Int)≤(m:Int):=ad;have cw:(m:Int)<(s.size:Int):=ad;by_cases c:s[m].toNat=10
        ·have EL:(((s[m].toNat:Nat):Int) != 10)=false:=by simp[c]
         have C:m≠j:=by
          rintro rfl;exact b4.o c
         have bq:=ae (show aT false (s.data.toList.drop k)=aT false (s.data.toList.drop m) by rw[cR.o,c7 ce,(xw _).2 c];exact Eo);clear c;go_wp2
         go_round
         case rel=>exact⟨m,hm,rfl,bq.o⟩
         case measure=>exact aH
        ·have EL:(((s[m].toNat:Nat):Int) != 10)=true:=by simp;omega
         have bq:=ae (show aT false (s.data.toList.drop k)=aT true (s.data.toList.drop (m+1)) by rw[cR.o,c7 ce];exact xS (fun h=>c ((xw _).1 h)));clear c;go_wp2
         go_round
         case rel=>exact⟨m+1,ad,ad,by go_num,bq.o⟩
         case measure=>exact aH
       ·have u:m=s.size:=ad;have bq:=ae (show aT false (s.data.toList.drop k)=aT false (s.data.toList.drop m) by
         rw[cR.o,u,Lk (by simp)];rfl)
        clear u;go_wp2
        go_round
        case rel=>exact⟨m,hm,rfl,bq.o⟩
        case measure=>exact aH
     ·have z:(((s[j+1].toNat:Nat):Int) == 47)=false:=by simp;omega
      have aW:=ae (d _ (t.trans ((congrArg _ (c7 ak)).trans ((nB aE.o (by
       rintro⟨_,h⟩;rw[c7 av,List.head?_cons] at h;injection h with h;exact f ((oE _).1 h))).trans (c7 ak).symm))))
      clear a f d;go_wp2;go_ret;exact⟨ret_int aW.symm,rfl⟩
    ·have y:(((s[j].toNat:Nat):Int) == 47)=false:=by simp;omega
     have aW:=ae (d _ (t.trans ((congrArg _ (c7 ak)).trans ((nB aE.o (fun h=>a ((oE _).1 h.1))).trans (c7 ak).symm))));clear a d;go_wp2;go_ret;exact⟨ret_int aW.symm,rfl⟩
   ·have dB:decide ((j:Int)+1<(s.size:Int))=false:=by simp;omega
    have aW:=ae (d _ (t.trans ((congrArg _ (c7 ak)).trans ((nB aE.o (by
     rintro⟨_,h⟩;rw[Lk (by simp;omega)] at h;cases h)).trans (c7 ak).symm))))
    clear av d;go_wp2;go_ret;exact⟨ret_int aW.symm,rfl⟩
  ·have r:j=s.size:=ad;have aW:=ae (show (s.size:Int) - (aT false (s.data.toList.drop k)).length=s.size by rw[t.o,r,Lk (by simp)];simp[En]);subst r;go_wp2;go_ret;exact⟨ret_int aW.symm,rfl⟩
end Go.Proofs.YtnhhdaggkiomoaaGreat
