/- Part 5 of the proof (LexP Str LexA), without conditions of its own. -/
import Derived.Test.YtjhgbdckgkppnaaGreatQ01
namespace Go.Proofs.YtjhgbdckgkppnaaGreat
open Go.RowKit Go.Proofs.Tryz
set_option maxRecDepth 1000000
set_option maxHeartbeats 25600000
set_option linter.unusedVariables false
variable{s:ByteArray}{l:List UInt8}{b cap k n o:Nat}{c:UInt8}{w:World}
def ni(c:UInt8):Bool:=c == 32 || c == 9 || c == 10 || c == 13
def bM(c:UInt8):Bool:=(decide (97≤c.toNat) && decide (c.toNat≤122)) || (decide (65≤c.toNat) && decide (c.toNat≤90)) || decide (c.toNat=95)
def bp(c:UInt8):Bool:=decide (48≤c.toNat) && decide (c.toNat≤57)
def bY(c:UInt8):Bool:=bM c || bp c
def qL:List (List UInt8):=[[118,97,114],[109,117,116,101,120],[114,109,117,116,101,120],[102,117,110,99],[108,111,99,107],[117,110,108,111,99,107],[103,111],[105,102],[101,108,115,101],[119,104,105,108,101],[114,101,116,117,114,110]]
def dm(s:List UInt8):Bool:=decide (s∈qL)
def br(s:List UInt8):Bool:=(match s with|[]=>false|c::l=>bM c && l.all bY) && decide (s.length≤16) && !dm s
def eF:List (List UInt8):=[[60,61],[62,61],[61,61],[33,61],[38,38],[124,124]]
def d7:List (List UInt8):=[[40],[41],[123],[125],[91],[93],[44],[59],[61],[43],[45],[42],[47],[37],[60],[62],[33]]
def eu(l:List UInt8):Nat:=if decide (l.take 2∈eF) && decide (2≤l.length) then 2 else if decide (l.take 1∈d7) then 1 else 0
def aQ:Bool→List UInt8→List UInt8
 | _,[]=>[]
 | true,c::l=>if c=10 then aQ false l else aQ true l
 | false,c::l=>if ni c then aQ false l else if c=47∧l.head?=some 47 then aQ true l else c::l
theorem iH:∀(b:Bool) (l:List UInt8),(aQ b l).length≤l.length
 | _,[]=>by unfold aQ;simp
 | true,c::l=>by
  unfold aQ;split
  ·have:=iH false l;simp;omega
  ·have:=iH true l;simp;omega
 | false,c::l=>by
  unfold aQ;split
  ·have:=iH false l;simp;omega
  ·split
   ·have:=iH true l;simp;omega
   ·simp
def hG:Int→List UInt8→Int
 | n,[]=>n
 | n,c::l=>if n > (9223372036854775807 - ((c.toNat:Int) - 48)) / 10 then -1 else hG (10*n+((c.toNat:Int) - 48)) l
def oh(l:List UInt8):Int:=hG 0 l
structure Tok where
 kind:Int
 text:List UInt8
 num:Int
 pos:Int
def eV:Nat→Nat→List UInt8→List Tok→List Tok×Int×Int
 | 0,_,_,_=>([],0,1)
 | f+1,n,l,acc=>
  match aQ false l with
  | []=>(acc++[⟨5,[],0,n⟩],n,0)
  | c::r=>
   let at_:Int:=(n:Int) - (r.length+1)
   if bM c then
    let t:=(c::r).takeWhile bY
    if !dm t && decide (16<t.length) then ([],at_,3)
    else if acc.length=4000 then ([],at_,3)
    else eV f n ((c::r).dropWhile bY) (acc++[⟨if dm t then 3 else 1,t,0,at_⟩])
   else if bp c then
    let t:=(c::r).takeWhile bp
    if oh t<0 then ([],at_,2)
    else if acc.length=4000 then ([],at_,3)
    else eV f n ((c::r).dropWhile bp) (acc++[⟨2,t,oh t,at_⟩])
   else if eu (c::r)=0 then ([],at_,1)
   else if acc.length=4000 then ([],at_,3)
   else eV f n ((c::r).drop (eu (c::r))) (acc++[⟨4,(c::r).take (eu (c::r)),0,at_⟩])
def db(l:List UInt8):List Tok×Int×Int:=if 262144<l.length then ([],262144,3) else eV (l.length+1) l.length l []
inductive Atom where
 | ws (c:UInt8)
 | word (s:List UInt8)
 | num (s:List UInt8)
 | sg (s:List UInt8)
def Atom.bytes:Atom→List UInt8
 | .ws c=>[c]
 | .word s=>s
 | .num s=>s
 | .sg s=>s
def Atom.fi:Atom→Prop
 | .ws c=>ni c=true
 | .word s=>(∃c l,s=c::l∧bM c=true∧l.all bY=true)∧(dm s=true∨s.length≤16)
 | .num s=>(∃c l,s=c::l)∧s.all bp=true∧0≤oh s
 | .sg s=>s∈eF∨s∈d7
def Atom.jo:Atom→Bool
 | .word _=>true
 | .num _=>true
 | _=>false
def Atom.head:Atom→Option UInt8
 | .ws c=>some c
 | .word s=>s.head?
 | .num s=>s.head?
 | .sg s=>s.head?
def Atom.fits(a b:Atom):Prop:=
 (a.jo=true→b.jo=false)∧∀s,a=.sg s→s∈d7→∀c,b.head=some c→(s++[c])∉eF∧¬(s=[47]∧c=47)
def Atom.count:List Atom→Nat
 | []=>0
 | .ws _::l=>Atom.count l
 | _::l=>Atom.count l+1
def Atom.chain:List Atom→Prop
 | []=>True
 | [a]=>a.fi
 | a::b::l=>a.fi∧a.fits b∧Atom.chain (b::l)
theorem t2(c:UInt8)(h:ni c=true):bM c=false∧bp c=false:=by
 simp only[ni,Bool.or_eq_true,beq_iff_eq] at h;rcases h with((rfl|rfl)|rfl)|rfl<;>decide
theorem s5(c:UInt8)(h:bM c=true):ni c=false∧c≠47:=by
 refine⟨?_,?_⟩
 ·cases hw:ni c with
  | false=>rfl
  | true=>have:=(t2 c hw).1;rw[h] at this;cases this
 ·rintro rfl;revert h;decide
theorem vc(c:UInt8)(h:bp c=true):ni c=false∧c≠47∧bM c=false:=by
 refine⟨?_,?_,?_⟩
 ·cases hw:ni c with
  | false=>rfl
  | true=>have:=(t2 c hw).2;rw[h] at this;cases this
 ·rintro rfl;revert h;decide
 ·simp only[bp,Gn,GK] at h;simp only[bM,Bool.or_eq_false_iff,Bool.and_eq_false_iff,decide_eq_false_iff_not];omega
theorem gb{α:Type}{p:α→Bool}{s r:List α}(h:s.all p=true)(aX:∀c,r.head?=some c→p c=false):(s++r).takeWhile p=s∧(s++r).dropWhile p=r:=by
 induction s with
 | nil=>
  cases r with
  | nil=>simp
  | cons c r=>have:=aX c rfl;simp[this]
 | cons a s aa=>
  simp only[List.all_cons,Gn] at h;have:=aa h.2;simp[h.1,this]
theorem hz:∀(e:List Atom) (f n:Nat) (acc:List Tok),Atom.chain e→(e.flatMap Atom.bytes).length<f→acc.length+Atom.count e≤4000→(eV f n (e.flatMap Atom.bytes) acc).2.2=0
 | [],f,n,acc,_,aw,_=>by
  cases f with
  | zero=>omega
  | succ f=>simp[eV,aQ]
 | a::e,f,n,acc,hc,aw,hn=>by
  have aM:a.fi:=by cases e<;>simp only[Atom.chain] at hc<;>first|exact hc|exact hc.1
  have q:Atom.chain e:=by
   cases e with
   | nil=>trivial
   | cons b l=>exact hc.2.2
  have o:∀b l,e=b::l→a.fits b:=fun b l h=>by subst h;exact hc.2.1
  have u:∀c,(e.flatMap Atom.bytes).head?=some c→∃b l,e=b::l∧b.head=some c∧b.fi:=by
   intro c h
   cases e with
   | nil=>simp at h
   | cons b l=>
    have j:b.fi:=by cases l<;>simp only[Atom.chain] at q<;>first|exact q|exact q.1
    refine⟨b,l,rfl,?_,j⟩
    cases b with
    | ws d=>simpa [Atom.bytes,Atom.head] using h
    | word s=>
     obtain⟨⟨d,m,rfl,_⟩,_⟩:=j
     simpa [Atom.bytes,Atom.head] using h
    | num s=>
     obtain⟨⟨d,m,rfl⟩,_⟩:=j
     simpa [Atom.bytes,Atom.head] using h
    | sg s=>
     have:∃d m,s=d::m:=by
      cases s with
      | nil=>rcases j with h|h<;>simp[eF,d7] at h
      | cons d m=>exact⟨d,m,rfl⟩
     obtain⟨d,m,rfl⟩:=this;simpa [Atom.bytes,Atom.head] using h
  have w:∀b:Atom,b.jo=false→b.fi→∀c,b.head=some c→bY c=false:=by
   intro b O j c hc
   cases b with
   | ws d=>
    simp only[Atom.head,GI] at hc;subst hc;have:=t2 d j
    simp[bY,this.1,this.2]
   | word s=>simp[Atom.jo] at O
   | num s=>simp[Atom.jo] at O
   | sg s=>
    have key:∀s∈eF++d7,∀c,s.head?=some c→bY c=false:=by decide
    refine key s ?_ c hc;rcases j with h|h<;>simp[h]
  cases f with
  | zero=>omega
  | succ f=>
   have hl:((a::e).flatMap Atom.bytes).length=a.bytes.length+(e.flatMap Atom.bytes).length:=by rw[Gx,Gd]
   cases a with
   | ws c=>
    have hw:ni c=true:=aM;have hlen:(e.flatMap Atom.bytes).length<f+1:=ad;have aa:=hz e (f+1) n acc q hlen (by simpa [Atom.count] using hn);have hs:aQ false (c::e.flatMap Atom.bytes)=aQ false (e.flatMap Atom.bytes):=by
     rw[aQ,if_pos hw]
    simp only[Gx,Atom.bytes,List.singleton_append];unfold eV at aa ⊢;rw[hs]
    exact aa
   | word s=>
    obtain⟨⟨c,l,rfl,a1,S⟩,br⟩:=aM;have cN:=s5 c a1;have v:∀d,(e.flatMap Atom.bytes).head?=some d→bY d=false:=fun d hd=>by
     obtain⟨b,l,has,O,j⟩:=u d hd;exact w b ((o b l has).1 rfl) j d O
    have i:=gb (p:=bY) (s:=c::l) (r:=e.flatMap Atom.bytes) (by simp[S,bY,a1]) v;simp only[Gs] at i;have g:aQ false (c::(l++e.flatMap Atom.bytes))=c::(l++e.flatMap Atom.bytes):=by
     rw[aQ,if_neg (by simp[cN.1]),if_neg (by simp[cN.2])]
    simp only[Atom.count] at hn;have aa:=fun t=>hz e f n (acc++[t]) q (by simp only[Atom.bytes,Gp] at hl;omega) (by simp;omega);simp only[Gx,Atom.bytes,Gs];unfold eV;simp only[g,a1,if_true,i.1,i.2];rw[if_neg ?_,if_neg ad]
    ·exact aa _
    ·rcases br with h|h
     ·simp[h]
     ·have ar:¬16<(c::l).length:=ad
      simp only[ar,decide_false,Bool.and_false,GL,not_false_eq_true]
   | num s=>
    obtain⟨⟨c,l,rfl⟩,hd,bC⟩:=aM;simp only[List.all_cons,Gn] at hd;have cN:=vc c hd.1;have v:∀d,(e.flatMap Atom.bytes).head?=some d→bp d=false:=fun d hd=>by
     obtain⟨b,l,has,O,j⟩:=u d hd;have:=w b ((o b l has).1 rfl) j d O;simp only[bY,Bool.or_eq_false_iff] at this;exact this.2
    have i:=gb (p:=bp) (s:=c::l) (r:=e.flatMap Atom.bytes) (by simp[hd]) v;simp only[Gs] at i;have g:aQ false (c::(l++e.flatMap Atom.bytes))=c::(l++e.flatMap Atom.bytes):=by
     rw[aQ,if_neg (by simp[cN.1]),if_neg (by simp[cN.2.1])]
    simp only[Atom.count] at hn;have aa:=fun t=>hz e f n (acc++[t]) q (by simp only[Atom.bytes,Gp] at hl;omega) (by simp;omega);simp only[Gx,Atom.bytes,Gs];unfold eV;simp only[g,cN.2.2,GL,if_false,hd.1,if_true,i.1,i.2];rw[if_neg ad,if_neg ad]
    exact aa _
   | sg s=>
    simp only[Atom.count] at hn;have aa:=fun t=>hz e f n (acc++[t]) q (by
     have:1≤s.length:=by
      cases s with
      | nil=>rcases aM with h|h<;>simp[eF,d7] at h
      | cons d m=>simp
     simp only[Atom.bytes] at hl;omega) (by simp;omega)
    have J:∀s∈eF,∃c d,s=[c,d]∧ni c=false∧c≠47∧bM c=false∧bp c=false:=by
     intro s hs;simp only[eF,Gt,List.not_mem_nil,or_false] at hs;rcases hs with rfl|rfl|rfl|rfl|rfl|rfl<;>exact⟨_,_,rfl,by decide,by decide,by decide,by decide⟩
    have ac:∀s∈d7,∃c,s=[c]∧ni c=false∧bM c=false∧bp c=false:=by
     intro s hs;simp only[d7,Gt,List.not_mem_nil,or_false] at hs;rcases hs with rfl|rfl|rfl|rfl|rfl|rfl|rfl|rfl|rfl|rfl|rfl|rfl|rfl|rfl|rfl|rfl|rfl<;>exact⟨_,rfl,by decide,by decide,by decide⟩
    by_cases bK:s∈eF
    ·obtain⟨c,d,rfl,cm,bZ,cz,cj⟩:=J s bK;have g:aQ false (c::d::e.flatMap Atom.bytes)=c::d::e.flatMap Atom.bytes:=by
      rw[aQ,if_neg (by simp[cm]),if_neg (by simp[bZ])]
     have k:eu (c::d::e.flatMap Atom.bytes)=2:=by simp[eu,bK]
     exact Ds
    ·have b7:s∈d7:=aM.resolve_left bK;obtain⟨c,rfl,cm,cz,cj⟩:=ac s b7;have ce:∀d,(e.flatMap Atom.bytes).head?=some d→[c,d]∉eF∧¬(c=47∧d=47):=fun d hd=>by
      obtain⟨b,l,has,O,_⟩:=u d hd;have:=(o b l has).2 [c] rfl b7 d O;simpa using this
     have g:aQ false (c::e.flatMap Atom.bytes)=c::e.flatMap Atom.bytes:=by
      rw[aQ,if_neg (by simp[cm]),if_neg ?_];rintro⟨e1,e2⟩;exact(ce 47 e2).2 ⟨e1,rfl⟩
     have k:eu (c::e.flatMap Atom.bytes)=1:=by
      unfold eu;rw[if_neg ?_,if_pos (decide_eq_true (by simpa using b7))];intro h;simp only[Gn,GK,Gp] at h
      cases aX:e.flatMap Atom.bytes with
      | nil=>rw[aX] at h;simp at h
      | cons d r=>
       rw[aX] at h;exact(ce d (by rw[aX];rfl)).1 (by simpa using h.1)
     exact Ds
theorem kI(c:UInt8)(w:World):Calls prog 124 #[.int .u8 c.toNat] w fun e ab=>e=.returned (.bool (bM c))∧w=ab:=by
 go_enter func124,ntmps124;go_wp2
 all_goals
  go_ret;refine⟨ret_bool ?_,rfl⟩;rw[Bool.eq_iff_iff];simp[bM];omega
theorem jU(c:UInt8)(w:World):Calls prog 125 #[.int .u8 c.toNat] w fun e ab=>e=.returned (.bool (bp c))∧w=ab:=by
 go_enter func125,ntmps125;go_wp2
 all_goals
  go_ret;refine⟨ret_bool ?_,rfl⟩;rw[Bool.eq_iff_iff];simp[bp];omega
theorem qC{x:ByteArray}(h:x≠s):(x.toList == s.toList)=false:=by
 refine beq_eq_false_iff_ne.2 fun e=>h ?_;rw[ByteArray.ext_iff];rw[Go.Lib.toList_data,Go.Lib.toList_data] at e;exact Array.toList_inj.1 e
def hasB(l:GS)(s:ByteArray):Bool:=l.any fun x=>decide (x=s)
theorem vm{l:GS}(h:∀(j:Nat) (x:ByteArray),l[j]?=some x→x≠s):hasB l s=false:=by
 unfold hasB;rw[List.any_eq_false];exact wH
theorem vn{l:GS}{j:Nat}(h:l[j]?=some s):hasB l s=true:=by
 unfold hasB;rw[List.any_eq_true];exact⟨s,Ge h,by simp⟩
theorem m4(A:GR)(n c:Nat)(l:GS)(s:ByteArray)(w:World)(h:cG (EF mO) 1 w w.heap.size A n l)(hn:n≤1000000) :
  Calls prog 146 #[.slice A n c,.string s] w fun e ab=>e=.returned (.bool (hasB l s))∧w=ab:=by
 have H:=ae h;clear h;go_enter func146,ntmps146;go_wp2
 go_loop [5] (fun i=>∃k:Nat,k≤n∧i=.int .i64 k∧∀(j:Nat) (x:ByteArray),j<k→l[j]?=some x→x≠s) (fun i=>n - (intOf i).toNat)
 case atStart=>exact⟨0,Gz _,rfl,fun j x h=>ad⟩
 case round=>
  obtain⟨k,ap,rfl,a2⟩:=hrel;have bB:=ae a2;clear a2;by_cases ao:k<n
  ·obtain⟨b,o,x,rfl,O,hx,hc⟩:=H.str ao;have aU:=ae hx;clear hx;by_cases hs:x=s
   ·subst hs;go_wp2;go_ret;exact⟨ret_bool (vn aU.o).symm,rfl⟩
   ·have q:=qC hs;have a8:=ae hs;clear hs;go_wp2
    go_round
    case rel=>exact⟨k+1,ad,by go_num,fun j y ba a3=>by
     by_cases u:j=k
     ·subst u;rw[aU.o] at a3;injection a3 with a3;subst a3;exact a8.o
     ·exact bB.o j y ad a3⟩
    case measure=>simp[intOf];omega
  ·have aY:k=n:=ad;have cI:=ae aY;clear aY;go_wp2;go_ret;exact⟨ret_bool (vm fun j x ba=>bB.o j x (by have:=(List.getElem?_eq_some_iff.1 ba).1;have:=H.1;have:=cI.o;omega) ba).symm,rfl⟩
theorem lx(w:World)(cs:Array Value)(t:TypeId)(l:GS)(hc:cs=(l.map Value.string).toArray)(hl:l.length=n):cG (EF mO) 1 (w.alloc (.cells cs t)) (w.alloc (.cells cs t)).heap.size (some ⟨w.heap.size,0,none⟩) n l:=by
 subst hc;refine⟨hl,fun _=>⟨w.heap.size,0,rfl,by simp,fun k x hx=>⟨mO x,rfl,rfl,fun j v ba=>?_⟩⟩⟩;have cy:j=0∧v=.string x:=by
  exact wy
 obtain⟨rfl,rfl⟩:=cy;rw[(ag.new w t _).cell];simp[hx]
def strOf(l:List UInt8):ByteArray:=⟨l.toArray⟩
theorem lh(L:List (List UInt8))(s:ByteArray):hasB (L.map strOf) s=decide (s.data.toList∈L):=by
 unfold hasB;rw[Bool.eq_iff_iff,List.any_eq_true,GK];constructor
 ·rintro⟨x,hx,he⟩;obtain⟨y,a3,rfl⟩:=GD.1 hx;simp only[GK] at he;subst he;exact a3
 ·intro h;refine⟨strOf s.data.toList,GD.2 ⟨_,h,rfl⟩,?_⟩;simp[strOf]
def g8(s:ByteArray):Bool:=dm s.data.toList
theorem lA(s:ByteArray)(w:World):Calls prog 126 #[.string s] w fun e ab=>e=.returned (.bool (g8 s))∧Ext w ab:=by
 go_enter func126,ntmps126;go_wp2_with (fail);refine(m4 _ 11 11 (qL.map strOf) s _ (lx w _ _ _ rfl rfl) ad).mono ?_;rintro e ab ⟨rfl,rfl⟩;go_wp2;go_ret;exact⟨ret_bool (lh _ _),GN.alloc _⟩
def iD(s:ByteArray):Bool:=br s.data.toList
theorem pA{x:UInt8}(hx:l[k]?=some x)(hl:bM x=false)(ap:k=0∨bp x=false):br l=false:=by
 cases l with
 | nil=>simp at hx
 | cons c l=>
  unfold br;simp only[Bool.and_eq_false_iff];left;left
  cases k with
  | zero=>
   simp at hx;subst hx
   exact .inl hl
  | succ k=>
   right;rw[List.getElem?_cons_succ] at hx;have hd:=ap.resolve_left ad;rw[List.all_eq_false];exact⟨x,Ge hx,by simp[bY,hl,hd]⟩
theorem te(h:∀(j:Nat) (x:UInt8),l[j]?=some x→bM x=true∨(0<j∧bp x=true)):br l=(decide (1≤l.length) && decide (l.length≤16) && !dm l):=by
 cases l with
 | nil=>rfl
 | cons c l=>
  have h0:=(h 0 c rfl).resolve_right ad;have y:l.all bY=true:=by
   rw[List.all_eq_true];intro x hx;obtain⟨j,ba⟩:=List.getElem?_of_mem hx;have:=h (j+1) x (by rw[List.getElem?_cons_succ];exact ba);unfold bY;rcases this with ac|ac<;>simp[ac]
  unfold br;simp[h0,y]
theorem byte_at(h:k<s.size):s.data.toList[k]?=some s[k]:=by
 rw[List.getElem?_eq_getElem (by simpa using h)];rfl
theorem gf(s:ByteArray)(w:World)(hs:s.size≤1000000):Calls prog 102 #[.string s] w fun e ab=>e=.returned (.bool (iD s))∧Ext w ab:=by
 go_enter func102,ntmps102;go_wp2
 go_loop [3] (fun i=>∃k:Nat,k≤s.size∧i=.int .i64 k∧∀(j:Nat) (x:UInt8),j<k→s.data.toList[j]?=some x→bM x=true∨(0<j∧bp x=true)) (fun i=>s.size - (intOf i).toNat)
 case atStart=>exact⟨0,Gz _,rfl,fun j x h=>ad⟩
 case round=>
  obtain⟨k,ap,rfl,a2⟩:=hrel;have bB:=ae a2;clear a2;by_cases ao:k<s.size
  ·have cK:=ae (byte_at ao);have step:(bM s[k]=true∨(0<k∧bp s[k]=true))→∀(j:Nat) (x:UInt8),j<k+1→s.data.toList[j]?=some x→bM x=true∨(0<j∧bp x=true):=by
    intro h j x ba hx;by_cases u:j=k
    ·subst u;rw[cK.o] at hx;injection hx with hx;subst hx;exact h
    ·exact bB.o j x ad hx
   have a8:=ae step;clear step;go_wp2_with (fail);refine(kI s[k] w).mono ?_;rintro e ab ⟨rfl,rfl⟩;by_cases hl:bM s[k]=true
   ·rw[hl];have b0:=ae hl;clear hl;go_wp2
    go_round
    case rel=>exact⟨k+1,ad,by go_num,a8.o (.inl b0.o)⟩
    case measure=>simp[intOf];omega
   ·have aa:bM s[k]=false:=by simpa using hl
    rw[aa];have b0:=ae aa;clear hl aa;by_cases aG:k=0
    ·have cI:=ae aG;subst aG;go_wp2;go_ret;exact⟨ret_bool (pA cK.o b0.o (.inl rfl)).symm,GN⟩
    ·have q:((k:Int) == 0)=false:=by simpa using aG
     have o:(k == 0)=false:=by simpa using aG
     have cI:=ae aG;clear aG;go_wp2_with (fail);refine(jU s[k] w).mono ?_;rintro e ab ⟨rfl,rfl⟩;by_cases hd:bp s[k]=true
     ·rw[hd];have c6:=ae hd;clear hd;go_wp2
      go_round
      case rel=>exact⟨k+1,ad,by go_num,a8.o (.inr ⟨by have:=cI.o;omega,c6.o⟩)⟩
      case measure=>simp[intOf];omega
     ·have C:bp s[k]=false:=by simpa using hd
      rw[C];have c6:=ae C;clear hd C;go_wp2;go_ret;exact⟨ret_bool (pA cK.o b0.o (.inr c6.o)).symm,GN⟩
  ·have aY:k=s.size:=ad;have m:iD s=(decide (1≤s.size) && decide (s.size≤16) && !g8 s):=by
    have:=te (l:=s.data.toList) (fun j x hx=>bB.o j x (by have:=(List.getElem?_eq_some_iff.1 hx).1;simp at this;rw[aY];exact this) hx);simpa [iD,g8] using this
   have cK:=ae m;subst aY;clear m;by_cases ac:1≤s.size∧s.size≤16
   ·have co:decide ((s.size:Int)≥1)=true:=by simp;omega
    have ej:decide ((s.size:Int)≤16)=true:=by simp;omega
    have aZ:=ae (show iD s=!g8 s by rw[cK.o];simp[ac]);clear ac;go_wp2_with (fail);refine(lA s w).mono ?_;rintro e ab ⟨rfl,O⟩;have a4:=ae O;clear O;go_wp2;go_ret;exact⟨ret_bool aZ.symm,a4.o⟩
   ·have aZ:=ae (show iD s=false by rw[cK.o];simp;omega);by_cases J:1≤s.size
    ·have co:decide ((s.size:Int)≥1)=true:=by simp;omega
     have ej:decide ((s.size:Int)≤16)=false:=by simp;omega
     clear ac J;go_wp2;go_ret;exact⟨ret_bool aZ.symm,GN⟩
    ·have co:decide ((s.size:Int)≥1)=false:=by simp;omega
     clear ac J;go_wp2;go_ret;exact⟨ret_bool aZ.symm,GN⟩
structure eG(w:World)(b o cap:Nat)(s:ByteArray):Prop where
 bytes:Lib.Bytes w b o s
 lt:b<w.heap.size
 fit:s.size≤cap
 small:s.size≤1000000
theorem eG.on{ab:World}(h:eG w b o cap s)(O:Ext w ab):eG ab b o cap s:=
 ⟨fun i aJ=>(O.cell h.lt (fun h=>h)).trans (h.bytes i aJ),Gc h.lt O.size,h.fit,h.small⟩
theorem fq(s:ByteArray)(j n:Nat):(s.extract j (j+n)).data.toList=(s.data.toList.drop j).take n:=by
 rw[Lib.extract_data,Nat.add_sub_cancel_left]
theorem tI(s:ByteArray):strOf s.data.toList=s:=by
 unfold strOf;cases s
 simp
theorem ma(hc:s.size≤cap)(hn:0<n)(ap:k+n≤s.size)(W:World):
  (Instr.slice 131 (.slice (some ⟨b,o,none⟩) s.size cap) (some (.int .i64 (k:Int))) (some (.int .i64 ((k:Int)+(n:Int)))) none).run prog W=.ok (.slice (some ⟨b,o+k,none⟩) n (cap - k)) W:=by
 have:=Lib.run_slice_window (P:=prog) W 131 5 Tryz.underlying131 (fun w=>by kernel_rfl) b o s.size cap k (k+n) ad ad;rw[show k+n - k=n by omega,Int.natCast_add] at this;exact this
theorem jb(h:eG w b o cap s)(c:Nat)(ap:k+n≤s.size):
  (convert 131 9 (.slice (some ⟨b,o+k,none⟩) n c)).run prog w=.ok (.string (s.extract k (k+n))) w:=
 Lib.run_convert_window w _ _ _ Tryz.underlying131 Tryz.underlying5 Tryz.underlying9 b o s h.bytes k n c ap
theorem Bf(s:ByteArray)(b o cap k:Nat)(w:World)(h:eG w b o cap s)(ap:k<s.size) :
  Calls prog 133 #[.slice (some ⟨b,o,none⟩) s.size cap,.int .i64 k] w fun e ab=>e=.returned (.int .i64 (eu (s.data.toList.drop k)))∧Ext w ab:=by
 have H:=ae h;have bN:=h.small;have M:=h.fit;have s1:=fun W=>ma (b:=b) (o:=o) h.fit (k:=k) (n:=1) ad ad W;have b4:∀W,Ext w W→∀(cs:Array Value) (t:TypeId),(convert 131 9 (.slice (some ⟨b,o+k,none⟩) 1 (cap - k))).run prog (W.alloc (.cells cs t))=.ok (.string (s.extract k (k+1))) (W.alloc (.cells cs t)):=fun W bg cs t=>jb (h.on (bg.alloc (.cells cs t))) (k:=k) (n:=1) (cap - k) ad;have I:=ae b4;clear b4;have dN:(0:Int)≤(k:Int):=ad;clear h;by_cases J:k+1<s.size
 ·have s2:=fun W=>ma (b:=b) (o:=o) M (k:=k) (n:=2) ad ad W;have c2:=fun(cs:Array Value) (t:TypeId)=>jb (H.on (GN.alloc (.cells cs t))) (k:=k) (n:=2) (cap - k) ad;simp only[Int.cast_ofNat_Int] at s1 s2;go_enter func133,ntmps133;go_wp2_with (fail);refine(m4 _ 6 6 (eF.map strOf) _ _ (lx w _ _ _ rfl rfl) ad).mono ?_;rintro e ab ⟨rfl,rfl⟩;rw[lh,fq];have bR:decide (2≤(s.data.toList.drop k).length)=true:=by simp;omega
  by_cases hm:(s.data.toList.drop k).take 2∈eF
  ·have aZ:=ae (show eu (s.data.toList.drop k)=2 by unfold eu;rw[decide_eq_true hm,bR];rfl);rw[decide_eq_true hm];clear hm bR;exact r8
  ·have aZ:=ae (show eu (s.data.toList.drop k)=if decide ((s.data.toList.drop k).take 1∈d7) then 1 else 0 by unfold eu;rw[decide_eq_false hm];rfl);rw[decide_eq_false hm];clear hm bR c2 s2;generalize bg:World.alloc w _=W;have av:Ext w W:=bg▸GN.alloc _;have c1:=I.o W av;clear bg;go_wp2_with (fail);refine(m4 _ 17 17 (d7.map strOf) _ _ (lx W _ _ _ rfl rfl) ad).mono ?_;rintro e ab ⟨rfl,rfl⟩;rw[lh,fq];by_cases hm:(s.data.toList.drop k).take 1∈d7
   ·rw[decide_eq_true hm] at aZ ⊢;exact wJ
   ·rw[decide_eq_false hm] at aZ ⊢;exact wJ
 ·have bR:decide (2≤(s.data.toList.drop k).length)=false:=by simp;omega
  have cT:decide ((k:Int)+1<(s.size:Int))=false:=by simp;omega
  have c7:¬(k:Int)+1<(s.size:Int):=ad;have aZ:=ae (show eu (s.data.toList.drop k)=if decide ((s.data.toList.drop k).take 1∈d7) then 1 else 0 by unfold eu;rw[bR,Bool.and_false];rfl);simp only[Int.cast_ofNat_Int] at s1;clear bR;go_enter func133,ntmps133;have c1:=I.o w GN;go_wp2_with (fail);refine(m4 _ 17 17 (d7.map strOf) _ _ (lx w _ _ _ rfl rfl) ad).mono ?_;rintro e ab ⟨rfl,rfl⟩;rw[lh,fq];by_cases hm:(s.data.toList.drop k).take 1∈d7
  ·rw[decide_eq_true hm] at aZ ⊢;clear hm;exact r8
  ·rw[decide_eq_false hm] at aZ ⊢;clear hm;exact r8
theorem eG.byte(h:eG w b o cap s)(ap:k<s.size):w.cell? ⟨b,o+k,none⟩=some (.int .u8 (s[k].toNat:Int)):=h.bytes k ap
theorem cI(h:k<s.size):s.data.toList.drop k=s[k]::s.data.toList.drop (k+1):=by
 rw[List.drop_eq_getElem_cons (by simpa using h)];rfl
theorem oP(c:UInt8):ni c=true↔c.toNat=32∨c.toNat=9∨c.toNat=10∨c.toNat=13:=by
 simp only[ni,Bool.or_eq_true,beq_iff_eq,←UInt8.toNat_inj];show ((c.toNat=32∨c.toNat=9)∨c.toNat=10)∨c.toNat=13↔_
 omega
theorem mX(c:UInt8):c=47↔c.toNat=47:=by rw[←UInt8.toNat_inj];rfl
theorem uA(c:UInt8):c=10↔c.toNat=10:=by rw[←UInt8.toNat_inj];rfl
theorem kb(h:ni c=true):aQ false (c::l)=aQ false l:=by rw[aQ,if_pos h]
theorem l5(h:ni c=false)(J:¬(c=47∧l.head?=some 47)):aQ false (c::l)=c::l:=by rw[aQ,if_neg (by simp[h]),if_neg J]
theorem uT(h:c≠10):aQ true (c::l)=aQ true l:=by rw[aQ,if_neg h]
theorem Bh(h:c=47)(J:l.head?=some 47):aQ false (c::l)=aQ true (c::l):=by
 subst h;have a:aQ false (47::l)=aQ true l:=by rw[aQ,if_neg (by decide),if_pos ⟨rfl,J⟩]
 exact a.trans (uT (by decide)).symm
theorem Bj:aQ true (10::l)=aQ false (10::l):=by
 have a:aQ true (10::l)=aQ false l:=by rw[aQ,if_pos rfl]
 exact a.trans (kb (by decide)).symm
theorem Bi(b:Bool):aQ b []=[]:=by cases b<;>rfl
theorem jL(s:ByteArray)(b o cap k:Nat)(w:World)(h:eG w b o cap s)(ap:k≤s.size) :
  Calls prog 131 #[.slice (some ⟨b,o,none⟩) s.size cap,.int .i64 k] w fun e ab=>e=.returned (.int .i64 ((s.size:Int) - (aQ false (s.data.toList.drop k)).length))∧w=ab:=by
 have H:=ae h;have bN:=h.small;clear h;go_enter func131,ntmps131;go_wp2
 go_loop [1] (fun i=>∃j:Nat,j≤s.size∧i=.int .i64 j∧aQ false (s.data.toList.drop k)=aQ false (s.data.toList.drop j)) (fun i=>s.size - (intOf i).toNat)
 case atStart=>exact⟨k,ap,rfl,rfl⟩
 case round=>
  obtain⟨j,ba,rfl,r⟩:=hrel;have f:=ae r;clear r;by_cases ao:j<s.size
  ·have hc:=H.byte ao;have ax:(0:Int)≤(j:Int):=ad;have cc:(j:Int)<(s.size:Int):=ad;by_cases n:s[j].toNat=32
   ·have I:(((s[j].toNat:Nat):Int) == 32)=true:=by simp[n]
    have aj:=ae (f.trans ((congrArg _ (cI ao)).trans (kb ((oP _).2 ad))));clear n;go_wp2
    go_round
    case rel=>exact⟨j+1,ad,by go_num,aj.o⟩
    case measure=>simp[intOf];omega
   by_cases a9:s[j].toNat=9
   ·have aH:(((s[j].toNat:Nat):Int) == 9)=true:=by simp[a9]
    have t:(((s[j].toNat:Nat):Int) == 32)=false:=by simp;omega
    have aj:=ae (f.trans ((congrArg _ (cI ao)).trans (kb ((oP _).2 ad))));clear a9 n;go_wp2
    go_round
    case rel=>exact⟨j+1,ad,by go_num,aj.o⟩
    case measure=>simp[intOf];omega
   by_cases q:s[j].toNat=10
   ·have y:(((s[j].toNat:Nat):Int) == 10)=true:=by simp[q]
    have t:(((s[j].toNat:Nat):Int) == 32)=false:=by simp;omega
    have C:(((s[j].toNat:Nat):Int) == 9)=false:=by simp;omega
    have aj:=ae (f.trans ((congrArg _ (cI ao)).trans (kb ((oP _).2 ad))));clear q n a9;go_wp2
    go_round
    case rel=>exact⟨j+1,ad,by go_num,aj.o⟩
    case measure=>simp[intOf];omega
   by_cases g:s[j].toNat=13
   ·have G:(((s[j].toNat:Nat):Int) == 13)=true:=by simp[g]
    have t:(((s[j].toNat:Nat):Int) == 32)=false:=by simp;omega
    have C:(((s[j].toNat:Nat):Int) == 9)=false:=by simp;omega
    have z:(((s[j].toNat:Nat):Int) == 10)=false:=by simp;omega
    have aj:=ae (f.trans ((congrArg _ (cI ao)).trans (kb ((oP _).2 ad))));clear g n a9 q;go_wp2
    go_round
    case rel=>exact⟨j+1,ad,by go_num,aj.o⟩
    case measure=>simp[intOf];omega
   have t:(((s[j].toNat:Nat):Int) == 32)=false:=by simp;omega
   have C:(((s[j].toNat:Nat):Int) == 9)=false:=by simp;omega
   have z:(((s[j].toNat:Nat):Int) == 10)=false:=by simp;omega
   have F:(((s[j].toNat:Nat):Int) == 13)=false:=by simp;omega
   have b9:ni s[j]=false:=by
    cases hw:ni s[j] with
    | false=>rfl
    | true=>have:=(oP _).1 hw;omega
   have U:=ae b9;clear b9 n a9 q g;have d:∀l:List UInt8,l=s.data.toList.drop j→((s.size:Int) - l.length)=j:=fun l hl=>by subst hl;simp;omega
   by_cases J:j+1<s.size
   ·have ce:=H.byte J;have aR:((j+1:Nat):Int)=(j:Int)+1:=ad;have ds:decide ((j:Int)+1<(s.size:Int))=true:=by simp;omega
    by_cases a:s[j].toNat=47
    ·have A:(((s[j].toNat:Nat):Int) == 47)=true:=by simp[a]
     by_cases c:s[j+1].toNat=47
     ·have B:(((s[j+1].toNat:Nat):Int) == 47)=true:=by simp[c]
      have bs:=ae (show aQ false (s.data.toList.drop k)=aQ true (s.data.toList.drop j) by
       rw[f.o,cI ao];refine Bh ((mX _).2 a) ?_;rw[cI J,List.head?_cons,(mX _).2 c])
      have bB:=ae (show s[j].toNat≠10 by omega);clear a c;go_wp2
      go_loop [1] (fun i=>∃m:Nat,j≤m∧m≤s.size∧i=.int .i64 m∧aQ false (s.data.toList.drop k)=aQ true (s.data.toList.drop m)) (fun i=>s.size - (intOf i).toNat)
      case atStart=>exact⟨j,Gb _,ba,rfl,bs.o⟩
      case round=>
       obtain⟨m,D,hm,rfl,P⟩:=hrel;have dr:=ae P;clear P;by_cases aC:m<s.size
       ·have v:=H.byte aC;have b8:(0:Int)≤(m:Int):=ad;have b2:(m:Int)<(s.size:Int):=ad;by_cases q:s[m].toNat=10
        ·have y:(((s[m].toNat:Nat):Int) != 10)=false:=by simp[q]
         have E:m≠j:=by
          rintro rfl;exact bB.o q
         have bh:=ae (show aQ false (s.data.toList.drop k)=aQ false (s.data.toList.drop m) by rw[dr.o,cI aC,(uA _).2 q];exact Bj);clear q;go_wp2
         go_round
         case rel=>exact⟨m,hm,rfl,bh.o⟩
         case measure=>simp[intOf];omega
        ·have y:(((s[m].toNat:Nat):Int) != 10)=true:=by simp;omega
         have bh:=ae (show aQ false (s.data.toList.drop k)=aQ true (s.data.toList.drop (m+1)) by rw[dr.o,cI aC];exact uT (fun h=>q ((uA _).1 h)));clear q;go_wp2
         go_round
         case rel=>exact⟨m+1,ad,ad,by go_num,bh.o⟩
         case measure=>simp[intOf];omega
       ·have x:m=s.size:=ad;have bh:=ae (show aQ false (s.data.toList.drop k)=aQ false (s.data.toList.drop m) by
         rw[dr.o,x,GJ (by simp)];rfl)
        clear x;go_wp2
        go_round
        case rel=>exact⟨m,hm,rfl,bh.o⟩
        case measure=>simp[intOf];omega
     ·have B:(((s[j+1].toNat:Nat):Int) == 47)=false:=by simp;omega
      have aZ:=ae (d _ (f.trans ((congrArg _ (cI ao)).trans ((l5 U.o (by
       rintro⟨_,h⟩;rw[cI J,List.head?_cons] at h;injection h with h;exact c ((mX _).1 h))).trans (cI ao).symm))))
      clear a c d;go_wp2;go_ret;exact⟨ret_int aZ.symm,rfl⟩
    ·have A:(((s[j].toNat:Nat):Int) == 47)=false:=by simp;omega
     have aZ:=ae (d _ (f.trans ((congrArg _ (cI ao)).trans ((l5 U.o (fun h=>a ((mX _).1 h.1))).trans (cI ao).symm))));clear a d;go_wp2;go_ret;exact⟨ret_int aZ.symm,rfl⟩
   ·have ds:decide ((j:Int)+1<(s.size:Int))=false:=by simp;omega
    have aZ:=ae (d _ (f.trans ((congrArg _ (cI ao)).trans ((l5 U.o (by
     rintro⟨_,h⟩;rw[GJ (by simp;omega)] at h;cases h)).trans (cI ao).symm))))
    clear J d;go_wp2;go_ret;exact⟨ret_int aZ.symm,rfl⟩
  ·have u:j=s.size:=ad;have aZ:=ae (show (s.size:Int) - (aQ false (s.data.toList.drop k)).length=s.size by rw[f.o,u,GJ (by simp)];simp[Bi]);subst u;go_wp2;go_ret;exact⟨ret_int aZ.symm,rfl⟩
end Go.Proofs.YtjhgbdckgkppnaaGreat
