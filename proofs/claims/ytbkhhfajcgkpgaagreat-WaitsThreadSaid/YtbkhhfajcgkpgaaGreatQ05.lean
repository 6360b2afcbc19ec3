/- Part 5 of the proof. No condition of its own. -/
import Derived.Test.YtbkhhfajcgkpgaaGreatQ01
namespace Go.Proofs.YtbkhhfajcgkpgaaGreat
open Go.RowKit Go.Proofs.Tryz
set_option maxRecDepth 1000000
set_option maxHeartbeats 25600000
set_option linter.unusedVariables false
variable{s:ByteArray}{l:List UInt8}{b cap k n o:Nat}{c:UInt8}{w:World}
def oF(c:UInt8):Bool:=c == 32 || c == 9 || c == 10 || c == 13
def bM(c:UInt8):Bool:=(decide (97≤c.toNat) && decide (c.toNat≤122)) || (decide (65≤c.toNat) && decide (c.toNat≤90)) || decide (c.toNat=95)
def bm(c:UInt8):Bool:=decide (48≤c.toNat) && decide (c.toNat≤57)
def bV(c:UInt8):Bool:=bM c || bm c
def sX:List (List UInt8):=[[118,97,114],[109,117,116,101,120],[114,109,117,116,101,120],[102,117,110,99],[108,111,99,107],[117,110,108,111,99,107],[103,111],[105,102],[101,108,115,101],[119,104,105,108,101],[114,101,116,117,114,110]]
def dr(s:List UInt8):Bool:=decide (s∈sX)
def bp(s:List UInt8):Bool:=(match s with|[]=>false|c::l=>bM c && l.all bV) && decide (s.length≤16) && !dr s
def eY:List (List UInt8):=[[60,61],[62,61],[61,61],[33,61],[38,38],[124,124]]
def ey:List (List UInt8):=[[40],[41],[123],[125],[91],[93],[44],[59],[61],[43],[45],[42],[47],[37],[60],[62],[33]]
def eM(l:List UInt8):Nat:=if decide (l.take 2∈eY) && decide (2≤l.length) then 2 else if decide (l.take 1∈ey) then 1 else 0
def aP:Bool→List UInt8→List UInt8
 | _,[]=>[]
 | true,c::l=>if c=10 then aP false l else aP true l
 | false,c::l=>if oF c then aP false l else if c=47∧l.head?=some 47 then aP true l else c::l
theorem ju:∀(b:Bool) (l:List UInt8),(aP b l).length≤l.length
 | _,[]=>by unfold aP;simp
 | true,c::l=>by
  unfold aP;split
  ·have:=ju false l;simp;omega
  ·have:=ju true l;simp;omega
 | false,c::l=>by
  unfold aP;split
  ·have:=ju false l;simp;omega
  ·split
   ·have:=ju true l;simp;omega
   ·simp
def im:Int→List UInt8→Int
 | n,[]=>n
 | n,c::l=>if n > (9223372036854775807 - ((c.toNat:Int) - 48)) / 10 then -1 else im (10*n+((c.toNat:Int) - 48)) l
def pL(l:List UInt8):Int:=im 0 l
structure Tok where
 kind:Int
 text:List UInt8
 num:Int
 pos:Int
def fv:Nat→Nat→List UInt8→List Tok→List Tok×Int×Int
 | 0,_,_,_=>([],0,1)
 | f+1,n,l,acc=>
  match aP false l with
  | []=>(acc++[⟨5,[],0,n⟩],n,0)
  | c::r=>
   let at_:Int:=(n:Int) - (r.length+1)
   if bM c then
    let t:=(c::r).takeWhile bV
    if !dr t && decide (16<t.length) then ([],at_,3)
    else if acc.length=4000 then ([],at_,3)
    else fv f n ((c::r).dropWhile bV) (acc++[⟨if dr t then 3 else 1,t,0,at_⟩])
   else if bm c then
    let t:=(c::r).takeWhile bm
    if pL t<0 then ([],at_,2)
    else if acc.length=4000 then ([],at_,3)
    else fv f n ((c::r).dropWhile bm) (acc++[⟨2,t,pL t,at_⟩])
   else if eM (c::r)=0 then ([],at_,1)
   else if acc.length=4000 then ([],at_,3)
   else fv f n ((c::r).drop (eM (c::r))) (acc++[⟨4,(c::r).take (eM (c::r)),0,at_⟩])
def dX(l:List UInt8):List Tok×Int×Int:=if 262144<l.length then ([],262144,3) else fv (l.length+1) l.length l []
inductive Atom where
 | ws (c:UInt8)
 | word (s:List UInt8)
 | num (s:List UInt8)
 | sg (s:List UInt8)
def Atom.bytes:Atom→List UInt8
 | .ws c=>[c]
 | .word s=>s
 | .num s=>s
 | .sg s=>s
def Atom.fF:Atom→Prop
 | .ws c=>oF c=true
 | .word s=>(∃c l,s=c::l∧bM c=true∧l.all bV=true)∧(dr s=true∨s.length≤16)
 | .num s=>(∃c l,s=c::l)∧s.all bm=true∧0≤pL s
 | .sg s=>s∈eY∨s∈ey
def Atom.j9:Atom→Bool
 | .word _=>true
 | .num _=>true
 | _=>false
def Atom.head:Atom→Option UInt8
 | .ws c=>some c
 | .word s=>s.head?
 | .num s=>s.head?
 | .sg s=>s.head?
def Atom.fits(a b:Atom):Prop:=
 (a.j9=true→b.j9=false)∧∀s,a=.sg s→s∈ey→∀c,b.head=some c→(s++[c])∉eY∧¬(s=[47]∧c=47)
def Atom.count:List Atom→Nat
 | []=>0
 | .ws _::l=>Atom.count l
 | _::l=>Atom.count l+1
def Atom.chain:List Atom→Prop
 | []=>True
 | [a]=>a.fF
 | a::b::l=>a.fF∧a.fits b∧Atom.chain (b::l)
theorem wz(c:UInt8)(h:oF c=true):bM c=false∧bm c=false:=by
 simp only[oF,Bool.or_eq_true,beq_iff_eq] at h;rcases h with((rfl|rfl)|rfl)|rfl<;>decide
theorem vu(c:UInt8)(h:bM c=true):oF c=false∧c≠47:=by
 refine⟨?_,?_⟩
 ·cases hw:oF c with
  | false=>rfl
  | true=>have:=(wz c hw).1;rw[h] at this;cases this
 ·rintro rfl;revert h;decide
theorem xJ(c:UInt8)(h:bm c=true):oF c=false∧c≠47∧bM c=false:=by
 refine⟨?_,?_,?_⟩
 ·cases hw:oF c with
  | false=>rfl
  | true=>have:=(wz c hw).2;rw[h] at this;cases this
 ·rintro rfl;revert h;decide
 ·simp only[bm,J2,Kk] at h;simp only[bM,Bool.or_eq_false_iff,Bool.and_eq_false_iff,decide_eq_false_iff_not];omega
theorem gL{α:Type}{p:α→Bool}{s r:List α}(h:s.all p=true)(aU:∀c,r.head?=some c→p c=false):(s++r).takeWhile p=s∧(s++r).dropWhile p=r:=by
 induction s with
 | nil=>
  cases r with
  | nil=>simp
  | cons c r=>have:=aU c rfl;simp[this]
 | cons a s ao=>
  simp only[List.all_cons,J2] at h;have:=ao h.2;simp[h.1,this]
theorem ie:∀(e:List Atom) (f n:Nat) (acc:List Tok),Atom.chain e→(e.flatMap Atom.bytes).length<f→acc.length+Atom.count e≤4000→(fv f n (e.flatMap Atom.bytes) acc).2.2=0
 | [],f,n,acc,_,aD,_=>by
  cases f with
  | zero=>omega
  | succ f=>simp[fv,aP]
 | a::e,f,n,acc,hc,aD,hn=>by
  have aJ:a.fF:=by cases e<;>simp only[Atom.chain] at hc<;>first|exact hc|exact hc.1
  have q:Atom.chain e:=by
   cases e with
   | nil=>trivial
   | cons b l=>exact hc.2.2
  have i:∀b l,e=b::l→a.fits b:=fun b l h=>by subst h;exact hc.2.1
  have u:∀c,(e.flatMap Atom.bytes).head?=some c→∃b l,e=b::l∧b.head=some c∧b.fF:=by
   intro c h
   cases e with
   | nil=>simp at h
   | cons b l=>
    have j:b.fF:=by cases l<;>simp only[Atom.chain] at q<;>first|exact q|exact q.1
    refine⟨b,l,rfl,?_,j⟩
    cases b with
    | ws d=>simpa[Atom.bytes,Atom.head] using h
    | word s=>
     obtain⟨⟨d,m,rfl,_⟩,_⟩:=j
     simpa[Atom.bytes,Atom.head] using h
    | num s=>
     obtain⟨⟨d,m,rfl⟩,_⟩:=j
     simpa[Atom.bytes,Atom.head] using h
    | sg s=>
     have:∃d m,s=d::m:=by
      cases s with
      | nil=>rcases j with h|h<;>simp[eY,ey] at h
      | cons d m=>exact⟨d,m,rfl⟩
     obtain⟨d,m,rfl⟩:=this;simpa[Atom.bytes,Atom.head] using h
  have w:∀b:Atom,b.j9=false→b.fF→∀c,b.head=some c→bV c=false:=by
   intro b O j c hc
   cases b with
   | ws d=>
    simp only[Atom.head,Ki] at hc;subst hc;have:=wz d j
    simp[bV,this.1,this.2]
   | word s=>simp[Atom.j9] at O
   | num s=>simp[Atom.j9] at O
   | sg s=>
    have key:∀s∈eY++ey,∀c,s.head?=some c→bV c=false:=by decide
    refine key s ?_ c hc;rcases j with h|h<;>simp[h]
  cases f with
  | zero=>omega
  | succ f=>
   have hl:((a::e).flatMap Atom.bytes).length=a.bytes.length+(e.flatMap Atom.bytes).length:=by rw[Ka,JS]
   cases a with
   | ws c=>
    have hw:oF c=true:=aJ;have hlen:(e.flatMap Atom.bytes).length<f+1:=ab;have ao:=ie e (f+1) n acc q hlen (by simpa[Atom.count] using hn);have hs:aP false (c::e.flatMap Atom.bytes)=aP false (e.flatMap Atom.bytes):=by
     rw[aP,if_pos hw]
    simp only[Ka,Atom.bytes,List.singleton_append];unfold fv at ao ⊢;rw[hs]
    exact ao
   | word s=>
    obtain⟨⟨c,l,rfl,a3,z⟩,aa⟩:=aJ;have cy:=vu c a3;have v:∀d,(e.flatMap Atom.bytes).head?=some d→bV d=false:=fun d hd=>by
     obtain⟨b,l,has,O,j⟩:=u d hd;exact w b ((i b l has).1 rfl) j d O
    have o:=gL (p:=bV) (s:=c::l) (r:=e.flatMap Atom.bytes) (by simp[z,bV,a3]) v;simp only[J5] at o;have g:aP false (c::(l++e.flatMap Atom.bytes))=c::(l++e.flatMap Atom.bytes):=by
     rw[aP,if_neg (by simp[cy.1]),if_neg (by simp[cy.2])]
    simp only[Atom.count] at hn;have ao:=fun t=>ie e f n (acc++[t]) q (by simp only[Atom.bytes,J3] at hl;omega) (by simp;omega);simp only[Ka,Atom.bytes,J5];unfold fv;simp only[g,a3,if_true,o.1,o.2];rw[if_neg ?_,if_neg ab]
    ·exact ao _
    ·rcases aa with h|h
     ·simp[h]
     ·have aq:¬16<(c::l).length:=ab
      simp only[aq,decide_false,Bool.and_false,Kl,not_false_eq_true]
   | num s=>
    obtain⟨⟨c,l,rfl⟩,hd,bD⟩:=aJ;simp only[List.all_cons,J2] at hd;have cy:=xJ c hd.1;have v:∀d,(e.flatMap Atom.bytes).head?=some d→bm d=false:=fun d hd=>by
     obtain⟨b,l,has,O,j⟩:=u d hd;have:=w b ((i b l has).1 rfl) j d O;simp only[bV,Bool.or_eq_false_iff] at this;exact this.2
    have o:=gL (p:=bm) (s:=c::l) (r:=e.flatMap Atom.bytes) (by simp[hd]) v;simp only[J5] at o;have g:aP false (c::(l++e.flatMap Atom.bytes))=c::(l++e.flatMap Atom.bytes):=by
     rw[aP,if_neg (by simp[cy.1]),if_neg (by simp[cy.2.1])]
    simp only[Atom.count] at hn;have ao:=fun t=>ie e f n (acc++[t]) q (by simp only[Atom.bytes,J3] at hl;omega) (by simp;omega);simp only[Ka,Atom.bytes,J5];unfold fv;simp only[g,cy.2.2,Kl,if_false,hd.1,if_true,o.1,o.2];rw[if_neg ab,if_neg ab]
    exact ao _
   | sg s=>
    simp only[Atom.count] at hn;have ao:=fun t=>ie e f n (acc++[t]) q (by
     have:1≤s.length:=by
      cases s with
      | nil=>rcases aJ with h|h<;>simp[eY,ey] at h
      | cons d m=>simp
     simp only[Atom.bytes] at hl;omega) (by simp;omega)
    have aC:∀s∈eY,∃c d,s=[c,d]∧oF c=false∧c≠47∧bM c=false∧bm c=false:=by
     intro s hs;simp only[eY,J6,List.not_mem_nil,or_false] at hs;rcases hs with rfl|rfl|rfl|rfl|rfl|rfl<;>exact⟨_,_,rfl,by decide,by decide,by decide,by decide⟩
    have ae:∀s∈ey,∃c,s=[c]∧oF c=false∧bM c=false∧bm c=false:=by
     intro s hs;simp only[ey,J6,List.not_mem_nil,or_false] at hs;rcases hs with rfl|rfl|rfl|rfl|rfl|rfl|rfl|rfl|rfl|rfl|rfl|rfl|rfl|rfl|rfl|rfl|rfl<;>exact⟨_,rfl,by decide,by decide,by decide⟩
    by_cases bz:s∈eY
    ·obtain⟨c,d,rfl,b5,bE,cx,H⟩:=aC s bz;have g:aP false (c::d::e.flatMap Atom.bytes)=c::d::e.flatMap Atom.bytes:=by
      rw[aP,if_neg (by simp[b5]),if_neg (by simp[bE])]
     have k:eM (c::d::e.flatMap Atom.bytes)=2:=by simp[eM,bz]
     exact FD
    ·have b1:s∈ey:=aJ.resolve_left bz;obtain⟨c,rfl,b5,cx,H⟩:=ae s b1;have fg:∀d,(e.flatMap Atom.bytes).head?=some d→[c,d]∉eY∧¬(c=47∧d=47):=fun d hd=>by
      obtain⟨b,l,has,O,_⟩:=u d hd;have:=(i b l has).2 [c] rfl b1 d O;simpa using this
     have g:aP false (c::e.flatMap Atom.bytes)=c::e.flatMap Atom.bytes:=by
      rw[aP,if_neg (by simp[b5]),if_neg ?_];rintro⟨e1,e2⟩;exact(fg 47 e2).2 ⟨e1,rfl⟩
     have k:eM (c::e.flatMap Atom.bytes)=1:=by
      unfold eM;rw[if_neg ?_,if_pos (decide_eq_true (by simpa using b1))];intro h;simp only[J2,Kk,J3] at h
      cases aU:e.flatMap Atom.bytes with
      | nil=>rw[aU] at h;simp at h
      | cons d r=>
       rw[aU] at h;exact(fg d (by rw[aU];rfl)).1 (by simpa using h.1)
     exact FD
theorem lN(c:UInt8)(w:World):Calls prog 105 #[.int .u8 c.toNat] w fun e ac=>e=.returned (.bool (bM c))∧w=ac:=by
 go_enter func105,ntmps105;go_wp2
 all_goals
  go_ret;refine⟨ret_bool ?_,rfl⟩;rw[Bool.eq_iff_iff];simp[bM];omega
theorem kK(c:UInt8)(w:World):Calls prog 106 #[.int .u8 c.toNat] w fun e ac=>e=.returned (.bool (bm c))∧w=ac:=by
 go_enter func106,ntmps106;go_wp2
 all_goals
  go_ret;refine⟨ret_bool ?_,rfl⟩;rw[Bool.eq_iff_iff];simp[bm];omega
theorem sP{x:ByteArray}(h:x≠s):(x.toList == s.toList)=false:=by
 refine beq_eq_false_iff_ne.2 fun e=>h ?_;rw[ByteArray.ext_iff];rw[Go.Lib.toList_data,Go.Lib.toList_data] at e;exact Array.toList_inj.1 e
def hasB(l:Ks)(s:ByteArray):Bool:=l.any fun x=>decide (x=s)
theorem xU{l:Ks}(h:∀(j:Nat) (x:ByteArray),l[j]?=some x→x≠s):hasB l s=false:=by
 unfold hasB;rw[List.any_eq_false];exact y7
theorem xV{l:Ks}{j:Nat}(h:l[j]?=some s):hasB l s=true:=by
 unfold hasB;rw[List.any_eq_true];exact⟨s,JT h,by simp⟩
theorem oq(A:Kr)(n c:Nat)(l:Ks)(s:ByteArray)(w:World)(h:cC (EF nX) 1 w w.heap.size A n l)(hn:n≤1000000) :
  Calls prog 123 #[.slice A n c,.string s] w fun e ac=>e=.returned (.bool (hasB l s))∧w=ac:=by
 have H:=ad h;clear h;go_enter func123,ntmps123;go_wp2
 go_loop [5] (fun i=>∃k:Nat,k≤n∧i=.int .i64 k∧∀(j:Nat) (x:ByteArray),j<k→l[j]?=some x→x≠s) (fun i=>n - (intOf i).toNat)
 case atStart=>exact⟨0,Kc _,rfl,fun j x h=>ab⟩
 case round=>
  obtain⟨k,aj,rfl,a1⟩:=hrel;have bW:=ad a1;clear a1;by_cases aw:k<n
  ·obtain⟨b,o,x,rfl,O,hx,hc⟩:=H.str aw;have aP:=ad hx;clear hx;by_cases hs:x=s
   ·subst hs;go_wp2;go_ret;exact⟨ret_bool (xV aP.o).symm,rfl⟩
   ·have q:=sP hs;have bu:=ad hs;clear hs;go_wp2
    go_round
    case rel=>exact⟨k+1,ab,by go_num,fun j y bc a4=>by
     by_cases z:j=k
     ·subst z;rw[aP.o] at a4;injection a4 with a4;subst a4;exact bu.o
     ·exact bW.o j y ab a4⟩
    case measure=>exact aB
  ·have J:k=n:=ab;have cm:=ad J;clear J;go_wp2;go_ret;exact⟨ret_bool (xU fun j x bc=>bW.o j x (by have:=(List.getElem?_eq_some_iff.1 bc).1;have:=H.1;have:=cm.o;omega) bc).symm,rfl⟩
theorem my(w:World)(cs:Array Value)(t:TypeId)(l:Ks)(hc:cs=(l.map Value.string).toArray)(hl:l.length=n):cC (EF nX) 1 (w.alloc (.cells cs t)) (w.alloc (.cells cs t)).heap.size (some ⟨w.heap.size,0,none⟩) n l:=by
 subst hc;refine⟨hl,fun _=>⟨w.heap.size,0,rfl,by simp,fun k x hx=>⟨nX x,rfl,rfl,fun j v bc=>?_⟩⟩⟩;have ci:j=0∧v=.string x:=by
  exact yW
 obtain⟨rfl,rfl⟩:=ci;rw[(af.new w t _).cell];simp[hx]
def strOf(l:List UInt8):ByteArray:=⟨l.toArray⟩
theorem mm(L:List (List UInt8))(s:ByteArray):hasB (L.map strOf) s=decide (s.data.toList∈L):=by
 unfold hasB;rw[Bool.eq_iff_iff,List.any_eq_true,Kk];constructor
 ·rintro⟨x,hx,he⟩;obtain⟨y,a4,rfl⟩:=Ke.1 hx;simp only[Kk] at he;subst he;exact a4
 ·intro h;refine⟨strOf s.data.toList,Ke.2 ⟨_,h,rfl⟩,?_⟩;simp[strOf]
def hY(s:ByteArray):Bool:=dr s.data.toList
theorem mE(s:ByteArray)(w:World):Calls prog 107 #[.string s] w fun e ac=>e=.returned (.bool (hY s))∧Ext w ac:=by
 go_enter func107,ntmps107;go_wp2_with(fail);refine(oq _ 11 11 (sX.map strOf) s _ (my w _ _ _ rfl rfl) ab).mono ?_;rintro e ac ⟨rfl,rfl⟩;go_wp2;go_ret;exact⟨ret_bool (mm _ _),Kn.alloc _⟩
def jr(s:ByteArray):Bool:=bp s.data.toList
theorem rm{x:UInt8}(hx:l[k]?=some x)(hl:bM x=false)(aj:k=0∨bm x=false):bp l=false:=by
 cases l with
 | nil=>simp at hx
 | cons c l=>
  unfold bp;simp only[Bool.and_eq_false_iff];left;left
  cases k with
  | zero=>
   simp at hx;subst hx
   exact .inl hl
  | succ k=>
   right;rw[List.getElem?_cons_succ] at hx;have hd:=aj.resolve_left ab;rw[List.all_eq_false];exact⟨x,JT hx,by simp[bV,hl,hd]⟩
theorem vC(h:∀(j:Nat) (x:UInt8),l[j]?=some x→bM x=true∨(0<j∧bm x=true)):bp l=(decide (1≤l.length) && decide (l.length≤16) && !dr l):=by
 cases l with
 | nil=>rfl
 | cons c l=>
  have h0:=(h 0 c rfl).resolve_right ab;have aK:l.all bV=true:=by
   rw[List.all_eq_true];intro x hx;obtain⟨j,bc⟩:=List.getElem?_of_mem hx;have:=h (j+1) x (by rw[List.getElem?_cons_succ];exact bc);unfold bV;rcases this with ae|ae<;>simp[ae]
  unfold bp;simp[h0,aK]
theorem byte_at(h:k<s.size):s.data.toList[k]?=some s[k]:=by
 rw[List.getElem?_eq_getElem (by simpa using h)];rfl
theorem gP(s:ByteArray)(w:World)(hs:s.size≤1000000):Calls prog 112 #[.string s] w fun e ac=>e=.returned (.bool (jr s))∧Ext w ac:=by
 go_enter func112,ntmps112;go_wp2
 go_loop [3] (fun i=>∃k:Nat,k≤s.size∧i=.int .i64 k∧∀(j:Nat) (x:UInt8),j<k→s.data.toList[j]?=some x→bM x=true∨(0<j∧bm x=true)) (fun i=>s.size - (intOf i).toNat)
 case atStart=>exact⟨0,Kc _,rfl,fun j x h=>ab⟩
 case round=>
  obtain⟨k,aj,rfl,a1⟩:=hrel;have bW:=ad a1;clear a1;by_cases aw:k<s.size
  ·have bS:=ad (byte_at aw);have step:(bM s[k]=true∨(0<k∧bm s[k]=true))→∀(j:Nat) (x:UInt8),j<k+1→s.data.toList[j]?=some x→bM x=true∨(0<j∧bm x=true):=by
    intro h j x bc hx;by_cases z:j=k
    ·subst z;rw[bS.o] at hx;injection hx with hx;subst hx;exact h
    ·exact bW.o j x ab hx
   have bu:=ad step;clear step;go_wp2_with(fail);refine(lN s[k] w).mono ?_;rintro e ac ⟨rfl,rfl⟩;by_cases hl:bM s[k]=true
   ·rw[hl];have bK:=ad hl;clear hl;go_wp2
    go_round
    case rel=>exact⟨k+1,ab,by go_num,bu.o (.inl bK.o)⟩
    case measure=>exact aB
   ·have aL:bM s[k]=false:=by simpa using hl
    rw[aL];have bK:=ad aL;clear hl aL;by_cases I:k=0
    ·have cm:=ad I;subst I;go_wp2;go_ret;exact⟨ret_bool (rm bS.o bK.o (.inl rfl)).symm,Kn⟩
    ·have q:((k:Int) == 0)=false:=by simpa using I
     have aq:(k == 0)=false:=by simpa using I
     have cm:=ad I;clear I;go_wp2_with(fail);refine(kK s[k] w).mono ?_;rintro e ac ⟨rfl,rfl⟩;by_cases hd:bm s[k]=true
     ·rw[hd];have df:=ad hd;clear hd;go_wp2
      go_round
      case rel=>exact⟨k+1,ab,by go_num,bu.o (.inr ⟨by have:=cm.o;omega,df.o⟩)⟩
      case measure=>exact aB
     ·have G:bm s[k]=false:=by simpa using hd
      rw[G];have df:=ad G;clear hd G;go_wp2;go_ret;exact⟨ret_bool (rm bS.o bK.o (.inr df.o)).symm,Kn⟩
  ·have J:k=s.size:=ab;have o:jr s=(decide (1≤s.size) && decide (s.size≤16) && !hY s):=by
    have:=vC (l:=s.data.toList) (fun j x hx=>bW.o j x (by have:=(List.getElem?_eq_some_iff.1 hx).1;simp at this;rw[J];exact this) hx);simpa[jr,hY] using this
   have bS:=ad o;subst J;clear o;by_cases ae:1≤s.size∧s.size≤16
   ·have q1:decide ((s.size:Int)≥1)=true:=by simp;omega
    have cB:decide ((s.size:Int)≤16)=true:=by simp;omega
    have aX:=ad (show jr s=!hY s by rw[bS.o];simp[ae]);clear ae;go_wp2_with(fail);refine(mE s w).mono ?_;rintro e ac ⟨rfl,O⟩;have bs:=ad O;clear O;go_wp2;go_ret;exact⟨ret_bool aX.symm,bs.o⟩
   ·have aX:=ad (show jr s=false by rw[bS.o];simp;omega);by_cases aC:1≤s.size
    ·have q1:decide ((s.size:Int)≥1)=true:=by simp;omega
     have cB:decide ((s.size:Int)≤16)=false:=by simp;omega
     clear ae aC;go_wp2;go_ret;exact⟨ret_bool aX.symm,Kn⟩
    ·have q1:decide ((s.size:Int)≥1)=false:=by simp;omega
     clear ae aC;go_wp2;go_ret;exact⟨ret_bool aX.symm,Kn⟩
structure eU(w:World)(b o cap:Nat)(s:ByteArray):Prop where
 bytes:Lib.Bytes w b o s
 lt:b<w.heap.size
 fit:s.size≤cap
 small:s.size≤1000000
theorem eU.on{ac:World}(h:eU w b o cap s)(O:Ext w ac):eU ac b o cap s:=
 ⟨fun i al=>(O.cell h.lt (fun h=>h)).trans (h.bytes i al),JR h.lt O.size,h.fit,h.small⟩
theorem fQ(s:ByteArray)(j n:Nat):(s.extract j (j+n)).data.toList=(s.data.toList.drop j).take n:=by
 rw[Lib.extract_data,Nat.add_sub_cancel_left]
theorem v9(s:ByteArray):strOf s.data.toList=s:=by
 unfold strOf;cases s
 simp
theorem nn(hc:s.size≤cap)(hn:0<n)(aj:k+n≤s.size)(W:World):
  (Instr.slice 85 (.slice (some ⟨b,o,none⟩) s.size cap) (some (.int .i64 (k:Int))) (some (.int .i64 ((k:Int)+(n:Int)))) none).run prog W=.ok (.slice (some ⟨b,o+k,none⟩) n (cap - k)) W:=by
 have:=Lib.run_slice_window (P:=prog) W 85 5 Tryz.underlying85 (fun w=>by kernel_rfl) b o s.size cap k (k+n) ab ab;rw[show k+n - k=n by omega,Int.natCast_add] at this;exact this
theorem jV(h:eU w b o cap s)(c:Nat)(aj:k+n≤s.size):
  (convert 85 9 (.slice (some ⟨b,o+k,none⟩) n c)).run prog w=.ok (.string (s.extract k (k+n))) w:=
 Lib.run_convert_window w _ _ _ Tryz.underlying85 Tryz.underlying5 Tryz.underlying9 b o s h.bytes k n c aj
theorem Dk(s:ByteArray)(b o cap k:Nat)(w:World)(h:eU w b o cap s)(aj:k<s.size) :
  Calls prog 109 #[.slice (some ⟨b,o,none⟩) s.size cap,.int .i64 k] w fun e ac=>e=.returned (.int .i64 (eM (s.data.toList.drop k)))∧Ext w ac:=by
 have H:=ad h;have U:=h.small;have K:=h.fit;have s1:=fun W=>nn (b:=b) (o:=o) h.fit (k:=k) (n:=1) ab ab W;have b7:∀W,Ext w W→∀(cs:Array Value) (t:TypeId),(convert 85 9 (.slice (some ⟨b,o+k,none⟩) 1 (cap - k))).run prog (W.alloc (.cells cs t))=.ok (.string (s.extract k (k+1))) (W.alloc (.cells cs t)):=fun W bg cs t=>jV (h.on (bg.alloc (.cells cs t))) (k:=k) (n:=1) (cap - k) ab;have av:=ad b7;clear b7;have g2:(0:Int)≤(k:Int):=ab;clear h;by_cases aC:k+1<s.size
 ·have s2:=fun W=>nn (b:=b) (o:=o) K (k:=k) (n:=2) ab ab W;have c2:=fun(cs:Array Value) (t:TypeId)=>jV (H.on (Kn.alloc (.cells cs t))) (k:=k) (n:=2) (cap - k) ab;simp only[Int.cast_ofNat_Int] at s1 s2;go_enter func109,ntmps109;go_wp2_with(fail);refine(oq _ 6 6 (eY.map strOf) _ _ (my w _ _ _ rfl rfl) ab).mono ?_;rintro e ac ⟨rfl,rfl⟩;rw[mm,fQ];have am:decide (2≤(s.data.toList.drop k).length)=true:=by simp;omega
  by_cases hm:(s.data.toList.drop k).take 2∈eY
  ·have aX:=ad (show eM (s.data.toList.drop k)=2 by unfold eM;rw[decide_eq_true hm,am];rfl);rw[decide_eq_true hm];clear hm am;exact Ce
  ·have aX:=ad (show eM (s.data.toList.drop k)=if decide ((s.data.toList.drop k).take 1∈ey) then 1 else 0 by unfold eM;rw[decide_eq_false hm];rfl);rw[decide_eq_false hm];clear hm am c2 s2;generalize bg:World.alloc w _=W;have aF:Ext w W:=bg▸Kn.alloc _;have c1:=av.o W aF;clear bg;go_wp2_with(fail);refine(oq _ 17 17 (ey.map strOf) _ _ (my W _ _ _ rfl rfl) ab).mono ?_;rintro e ac ⟨rfl,rfl⟩;rw[mm,fQ];by_cases hm:(s.data.toList.drop k).take 1∈ey
   ·rw[decide_eq_true hm] at aX ⊢;exact y9
   ·rw[decide_eq_false hm] at aX ⊢;exact y9
 ·have am:decide (2≤(s.data.toList.drop k).length)=false:=by simp;omega
  have cv:decide ((k:Int)+1<(s.size:Int))=false:=by simp;omega
  have cF:¬(k:Int)+1<(s.size:Int):=ab;have aX:=ad (show eM (s.data.toList.drop k)=if decide ((s.data.toList.drop k).take 1∈ey) then 1 else 0 by unfold eM;rw[am,Bool.and_false];rfl);simp only[Int.cast_ofNat_Int] at s1;clear am;go_enter func109,ntmps109;have c1:=av.o w Kn;go_wp2_with(fail);refine(oq _ 17 17 (ey.map strOf) _ _ (my w _ _ _ rfl rfl) ab).mono ?_;rintro e ac ⟨rfl,rfl⟩;rw[mm,fQ];by_cases hm:(s.data.toList.drop k).take 1∈ey
  ·rw[decide_eq_true hm] at aX ⊢;clear hm;exact Ce
  ·rw[decide_eq_false hm] at aX ⊢;clear hm;exact Ce
theorem eU.byte(h:eU w b o cap s)(aj:k<s.size):w.cell? ⟨b,o+k,none⟩=some (.int .u8 (s[k].toNat:Int)):=h.bytes k aj
theorem cR(h:k<s.size):s.data.toList.drop k=s[k]::s.data.toList.drop (k+1):=by
 rw[List.drop_eq_getElem_cons (by simpa using h)];rfl
theorem qs(c:UInt8):oF c=true↔c.toNat=32∨c.toNat=9∨c.toNat=10∨c.toNat=13:=by
 simp only[oF,Bool.or_eq_true,beq_iff_eq,←UInt8.toNat_inj];show ((c.toNat=32∨c.toNat=9)∨c.toNat=10)∨c.toNat=13↔_
 omega
theorem og(c:UInt8):c=47↔c.toNat=47:=by rw[←UInt8.toNat_inj];rfl
theorem w1(c:UInt8):c=10↔c.toNat=10:=by rw[←UInt8.toNat_inj];rfl
theorem k0(h:oF c=true):aP false (c::l)=aP false l:=by rw[aP,if_pos h]
theorem na(h:oF c=false)(aC:¬(c=47∧l.head?=some 47)):aP false (c::l)=c::l:=by rw[aP,if_neg (by simp[h]),if_neg aC]
theorem xp(h:c≠10):aP true (c::l)=aP true l:=by rw[aP,if_neg h]
theorem Dm(h:c=47)(aC:l.head?=some 47):aP false (c::l)=aP true (c::l):=by
 subst h;have a:aP false (47::l)=aP true l:=by rw[aP,if_neg (by decide),if_pos ⟨rfl,aC⟩]
 exact a.trans (xp (by decide)).symm
theorem Dp:aP true (10::l)=aP false (10::l):=by
 have a:aP true (10::l)=aP false l:=by rw[aP,if_pos rfl]
 exact a.trans (k0 (by decide)).symm
theorem Dn(b:Bool):aP b []=[]:=by cases b<;>rfl
theorem kD(s:ByteArray)(b o cap k:Nat)(w:World)(h:eU w b o cap s)(aj:k≤s.size) :
  Calls prog 104 #[.slice (some ⟨b,o,none⟩) s.size cap,.int .i64 k] w fun e ac=>e=.returned (.int .i64 ((s.size:Int) - (aP false (s.data.toList.drop k)).length))∧w=ac:=by
 have H:=ad h;have U:=h.small;clear h;go_enter func104,ntmps104;go_wp2
 go_loop [1] (fun i=>∃j:Nat,j≤s.size∧i=.int .i64 j∧aP false (s.data.toList.drop k)=aP false (s.data.toList.drop j)) (fun i=>s.size - (intOf i).toNat)
 case atStart=>exact⟨k,aj,rfl,rfl⟩
 case round=>
  obtain⟨j,bc,rfl,g⟩:=hrel;have u:=ad g;clear g;by_cases aw:j<s.size
  ·have hc:=H.byte aw;have aD:(0:Int)≤(j:Int):=ab;have bq:(j:Int)<(s.size:Int):=ab;by_cases R:s[j].toNat=32
   ·have F:(((s[j].toNat:Nat):Int) == 32)=true:=by simp[R]
    have ax:=ad (u.trans ((congrArg _ (cR aw)).trans (k0 ((qs _).2 ab))));clear R;go_wp2
    go_round
    case rel=>exact⟨j+1,ab,by go_num,ax.o⟩
    case measure=>exact aB
   by_cases a3:s[j].toNat=9
   ·have dn:(((s[j].toNat:Nat):Int) == 9)=true:=by simp[a3]
    have n:(((s[j].toNat:Nat):Int) == 32)=false:=by simp;omega
    have ax:=ad (u.trans ((congrArg _ (cR aw)).trans (k0 ((qs _).2 ab))));clear a3 R;go_wp2
    go_round
    case rel=>exact⟨j+1,ab,by go_num,ax.o⟩
    case measure=>exact aB
   by_cases c:s[j].toNat=10
   ·have DN:(((s[j].toNat:Nat):Int) == 10)=true:=by simp[c]
    have n:(((s[j].toNat:Nat):Int) == 32)=false:=by simp;omega
    have A:(((s[j].toNat:Nat):Int) == 9)=false:=by simp;omega
    have ax:=ad (u.trans ((congrArg _ (cR aw)).trans (k0 ((qs _).2 ab))));clear c R a3;go_wp2
    go_round
    case rel=>exact⟨j+1,ab,by go_num,ax.o⟩
    case measure=>exact aB
   by_cases f:s[j].toNat=13
   ·have E:(((s[j].toNat:Nat):Int) == 13)=true:=by simp[f]
    have n:(((s[j].toNat:Nat):Int) == 32)=false:=by simp;omega
    have A:(((s[j].toNat:Nat):Int) == 9)=false:=by simp;omega
    have t:(((s[j].toNat:Nat):Int) == 10)=false:=by simp;omega
    have ax:=ad (u.trans ((congrArg _ (cR aw)).trans (k0 ((qs _).2 ab))));clear f R a3 c;go_wp2
    go_round
    case rel=>exact⟨j+1,ab,by go_num,ax.o⟩
    case measure=>exact aB
   have n:(((s[j].toNat:Nat):Int) == 32)=false:=by simp;omega
   have A:(((s[j].toNat:Nat):Int) == 9)=false:=by simp;omega
   have t:(((s[j].toNat:Nat):Int) == 10)=false:=by simp;omega
   have D:(((s[j].toNat:Nat):Int) == 13)=false:=by simp;omega
   have nH:oF s[j]=false:=by
    cases hw:oF s[j] with
    | false=>rfl
    | true=>have:=(qs _).1 hw;omega
   have bG:=ad nH;clear nH R a3 c f;have r:∀l:List UInt8,l=s.data.toList.drop j→((s.size:Int) - l.length)=j:=fun l hl=>by subst hl;simp;omega
   by_cases aC:j+1<s.size
   ·have bJ:=H.byte aC;have a9:((j+1:Nat):Int)=(j:Int)+1:=ab;have cH:decide ((j:Int)+1<(s.size:Int))=true:=by simp;omega
    by_cases a:s[j].toNat=47
    ·have x:(((s[j].toNat:Nat):Int) == 47)=true:=by simp[a]
     by_cases d:s[j+1].toNat=47
     ·have z:(((s[j+1].toNat:Nat):Int) == 47)=true:=by simp[d]
      have bL:=ad (show aP false (s.data.toList.drop k)=aP true (s.data.toList.drop j) by
       rw[u.o,cR aw];refine Dm ((og _).2 a) ?_;rw[cR aC,List.head?_cons,(og _).2 d])
      have bW:=ad (show s[j].toNat≠10 by omega);clear a d;go_wp2
      go_loop [1] (fun i=>∃m:Nat,j≤m∧m≤s.size∧i=.int .i64 m∧aP false (s.data.toList.drop k)=aP true (s.data.toList.drop m)) (fun i=>s.size - (intOf i).toNat)
      case atStart=>exact⟨j,JQ _,bc,rfl,bL.o⟩
      case round=>
       obtain⟨m,B,hm,rfl,P⟩:=hrel;have dv:=ad P;clear P;by_cases ay:m<s.size
       ·have v:=H.byte ay;have cj:(0:Int)≤(m:Int):=ab;have cr:(m:Int)<(s.size:Int):=ab;by_cases c:s[m].toNat=10
        ·have DN:(((s[m].toNat:Nat):Int) != 10)=false:=by simp[c]
         have C:m≠j:=by
          rintro rfl;exact bW.o c
         have a2:=ad (show aP false (s.data.toList.drop k)=aP false (s.data.toList.drop m) by rw[dv.o,cR ay,(w1 _).2 c];exact Dp);clear c;go_wp2
         go_round
         case rel=>exact⟨m,hm,rfl,a2.o⟩
         case measure=>exact aB
        ·have DN:(((s[m].toNat:Nat):Int) != 10)=true:=by simp;omega
         have a2:=ad (show aP false (s.data.toList.drop k)=aP true (s.data.toList.drop (m+1)) by rw[dv.o,cR ay];exact xp (fun h=>c ((w1 _).1 h)));clear c;go_wp2
         go_round
         case rel=>exact⟨m+1,ab,ab,by go_num,a2.o⟩
         case measure=>exact aB
       ·have q:m=s.size:=ab;have a2:=ad (show aP false (s.data.toList.drop k)=aP false (s.data.toList.drop m) by
         rw[dv.o,q,Kj (by simp)];rfl)
        clear q;go_wp2
        go_round
        case rel=>exact⟨m,hm,rfl,a2.o⟩
        case measure=>exact aB
     ·have z:(((s[j+1].toNat:Nat):Int) == 47)=false:=by simp;omega
      have aX:=ad (r _ (u.trans ((congrArg _ (cR aw)).trans ((na bG.o (by
       rintro⟨_,h⟩;rw[cR aC,List.head?_cons] at h;injection h with h;exact d ((og _).1 h))).trans (cR aw).symm))))
      clear a d r;go_wp2;go_ret;exact⟨ret_int aX.symm,rfl⟩
    ·have x:(((s[j].toNat:Nat):Int) == 47)=false:=by simp;omega
     have aX:=ad (r _ (u.trans ((congrArg _ (cR aw)).trans ((na bG.o (fun h=>a ((og _).1 h.1))).trans (cR aw).symm))));clear a r;go_wp2;go_ret;exact⟨ret_int aX.symm,rfl⟩
   ·have cH:decide ((j:Int)+1<(s.size:Int))=false:=by simp;omega
    have aX:=ad (r _ (u.trans ((congrArg _ (cR aw)).trans ((na bG.o (by
     rintro⟨_,h⟩;rw[Kj (by simp;omega)] at h;cases h)).trans (cR aw).symm))))
    clear aC r;go_wp2;go_ret;exact⟨ret_int aX.symm,rfl⟩
  ·have y:j=s.size:=ab;have aX:=ad (show (s.size:Int) - (aP false (s.data.toList.drop k)).length=s.size by rw[u.o,y,Kj (by simp)];simp[Dn]);subst y;go_wp2;go_ret;exact⟨ret_int aX.symm,rfl⟩
end Go.Proofs.YtbkhhfajcgkpgaaGreat
