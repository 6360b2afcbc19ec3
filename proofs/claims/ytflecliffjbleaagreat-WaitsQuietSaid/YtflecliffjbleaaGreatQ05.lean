/- Part 5 of the proof. No condition of its own. -/
import Derived.Test.YtflecliffjbleaaGreatQ01
namespace Go.Proofs.YtflecliffjbleaaGreat
open Go.RowKit Go.Proofs.Tryz
set_option maxRecDepth 1000000
set_option maxHeartbeats 25600000
set_option linter.unusedVariables false
variable{s:ByteArray}{l:List UInt8}{b cap k n o:Nat}{c:UInt8}{w:World}
def oM(c:UInt8):Bool:=c == 32 || c == 9 || c == 10 || c == 13
def bM(c:UInt8):Bool:=(decide (97<=c.toNat) && decide (c.toNat<=122)) || (decide (65<=c.toNat) && decide (c.toNat<=90)) || decide (c.toNat=95)
def br(c:UInt8):Bool:=decide (48<=c.toNat) && decide (c.toNat<=57)
def b1(c:UInt8):Bool:=bM c || br c
def qY:List (List UInt8):=[[118,97,114],[109,117,116,101,120],[114,109,117,116,101,120],[102,117,110,99],[108,111,99,107],[117,110,108,111,99,107],[103,111],[105,102],[101,108,115,101],[119,104,105,108,101],[114,101,116,117,114,110]]
def cn(s:List UInt8):Bool:=decide (s∈qY)
def bq(s:List UInt8):Bool:=(match s with|[]=>false|c::l=>bM c && l.all b1) && decide (s.length<=16) && !cn s
def eW:List (List UInt8):=[[60,61],[62,61],[61,61],[33,61],[38,38],[124,124]]
def eh:List (List UInt8):=[[40],[41],[123],[125],[91],[93],[44],[59],[61],[43],[45],[42],[47],[37],[60],[62],[33]]
def eV(l:List UInt8):Nat:=if decide (l.take 2∈eW) && decide (2<=l.length) then 2 else if decide (l.take 1∈eh) then 1 else 0
def aR:Bool->List UInt8->List UInt8
 | _,[]=>[]
 | true,c::l=>if c=10 then aR false l else aR true l
 | false,c::l=>if oM c then aR false l else if c=47/\l.head?=some 47 then aR true l else c::l
theorem jK:∀(b:Bool) (l:List UInt8),(aR b l).length<=l.length
 | _,[]=>by unfold aR;simp
 | true,c::l=>by
  unfold aR;split
  .have:=jK false l;simp;omega
  .have:=jK true l;simp;omega
 | false,c::l=>by
  unfold aR;split
  .have:=jK false l;simp;omega
  .split
   .have:=jK true l;simp;omega
   .simp
def iF:Int->List UInt8->Int
 | n,[]=>n
 | n,c::l=>if n > (9223372036854775807 - ((c.toNat:Int) - 48)) / 10 then -1 else iF (10*n+((c.toNat:Int) - 48)) l
def nH(l:List UInt8):Int:=iF 0 l
structure Tok where
 kind:Int
 text:List UInt8
 num:Int
 pos:Int
def fq:Nat->Nat->List UInt8->List Tok->List Tok×Int×Int
 | 0,_,_,_=>([],0,1)
 | f+1,n,l,acc=>
  match aR false l with
  | []=>(acc++[⟨5,[],0,n⟩],n,0)
  | c::r=>
   let at_:Int:=(n:Int) - (r.length+1)
   if bM c then
    let t:=(c::r).takeWhile b1
    if !cn t && decide (16<t.length) then ([],at_,3)
    else if acc.length=4000 then ([],at_,3)
    else fq f n ((c::r).dropWhile b1) (acc++[⟨if cn t then 3 else 1,t,0,at_⟩])
   else if br c then
    let t:=(c::r).takeWhile br
    if nH t<0 then ([],at_,2)
    else if acc.length=4000 then ([],at_,3)
    else fq f n ((c::r).dropWhile br) (acc++[⟨2,t,nH t,at_⟩])
   else if eV (c::r)=0 then ([],at_,1)
   else if acc.length=4000 then ([],at_,3)
   else fq f n ((c::r).drop (eV (c::r))) (acc++[⟨4,(c::r).take (eV (c::r)),0,at_⟩])
def dH(l:List UInt8):List Tok×Int×Int:=if 262144<l.length then ([],262144,3) else fq (l.length+1) l.length l []
inductive Atom where
 | ws (c:UInt8)
 | word (s:List UInt8)
 | num (s:List UInt8)
 | sg (s:List UInt8)
def Atom.bytes:Atom->List UInt8
 | .ws c=>[c]
 | .word s=>s
 | .num s=>s
 | .sg s=>s
def Atom.fG:Atom->Prop
 | .ws c=>oM c=true
 | .word s=>(∃c l,s=c::l/\bM c=true/\l.all b1=true)/\(cn s=true\/s.length<=16)
 | .num s=>(∃c l,s=c::l)/\s.all br=true/\0<=nH s
 | .sg s=>s∈eW\/s∈eh
def Atom.jF:Atom->Bool
 | .word _=>true
 | .num _=>true
 | _=>false
def Atom.head:Atom->Option UInt8
 | .ws c=>some c
 | .word s=>s.head?
 | .num s=>s.head?
 | .sg s=>s.head?
def Atom.fits(a b:Atom):Prop:=
 (a.jF=true->b.jF=false)/\∀s,a=.sg s->s∈eh->∀c,b.head=some c->(s++[c])∉eW/\¬(s=[47]/\c=47)
def Atom.count:List Atom->Nat
 | []=>0
 | .ws _::l=>Atom.count l
 | _::l=>Atom.count l+1
def Atom.chain:List Atom->Prop
 | []=>True
 | [a]=>a.fG
 | a::b::l=>a.fG/\a.fits b/\Atom.chain (b::l)
theorem xl(c:UInt8)(h:oM c=true):bM c=false/\br c=false:=by
 simp only[oM,Bool.or_eq_true,beq_iff_eq] at h;rcases h with((rfl|rfl)|rfl)|rfl<;>decide
theorem wm(c:UInt8)(h:bM c=true):oM c=false/\c≠47:=by
 refine⟨?_,?_⟩
 .cases hw:oM c with
  | false=>rfl
  | true=>have:=(xl c hw).1;rw[h] at this;cases this
 .rintro rfl;revert h;decide
theorem yB(c:UInt8)(h:br c=true):oM c=false/\c≠47/\bM c=false:=by
 refine⟨?_,?_,?_⟩
 .cases hw:oM c with
  | false=>rfl
  | true=>have:=(xl c hw).2;rw[h] at this;cases this
 .rintro rfl;revert h;decide
 .simp only[br,Ln,LI] at h;simp only[bM,Bool.or_eq_false_iff,Bool.and_eq_false_iff,decide_eq_false_iff_not];omega
theorem gV{α:Type}{p:α->Bool}{s r:List α}(h:s.all p=true)(aQ:∀c,r.head?=some c->p c=false):(s++r).takeWhile p=s/\(s++r).dropWhile p=r:=by
 induction s with
 | nil=>
  cases r with
  | nil=>simp
  | cons c r=>have:=aQ c rfl;simp[this]
 | cons a s ao=>
  simp only[List.all_cons,Ln] at h;have:=ao h.2;simp[h.1,this]
def lU(n:Nat):List Atom->List Tok
 | []=>[⟨5,[],0,n⟩]
 | .ws _::l=>lU n l
 | .word s::l=>⟨if cn s then 3 else 1,s,0,(n:Int) - ((s++l.flatMap Atom.bytes).length:Int)⟩::lU n l
 | .num s::l=>⟨2,s,nH s,(n:Int) - ((s++l.flatMap Atom.bytes).length:Int)⟩::lU n l
 | .sg s::l=>⟨4,s,0,(n:Int) - ((s++l.flatMap Atom.bytes).length:Int)⟩::lU n l
theorem pR{acc L:List Tok}{k m q p:Int}{t u:List UInt8}{R:List Tok×Int×Int}{n:Int}(h:R=((acc++[⟨k,t,m,p⟩])++L,n,0))(hu:t=u)(hp:p=q):R=(acc++⟨k,u,m,q⟩::L,n,0):=by
 subst hu hp;rw[h,Lp];rfl
theorem h7:∀(aI:List Atom) (f n:Nat) (acc:List Tok),Atom.chain aI->(aI.flatMap Atom.bytes).length<f->acc.length+Atom.count aI<=4000->fq f n (aI.flatMap Atom.bytes) acc=(acc++lU n aI,(n:Int),0)
 | [],f,n,acc,_,J,_=>by
  cases f with
  | zero=>omega
  | succ f=>simp[fq,aR,lU]
 | a::aI,f,n,acc,hc,J,hn=>by
  have aK:a.fG:=by cases aI<;>simp only[Atom.chain] at hc<;>first|exact hc|exact hc.1
  have o:Atom.chain aI:=by
   cases aI with
   | nil=>trivial
   | cons b l=>exact hc.2.2
  have i:∀b l,aI=b::l->a.fits b:=λb l h=>by subst h;exact hc.2.1
  have q:∀c,(aI.flatMap Atom.bytes).head?=some c->∃b l,aI=b::l/\b.head=some c/\b.fG:=by
   intro c h
   cases aI with
   | nil=>simp at h
   | cons b l=>
    have j:b.fG:=by cases l<;>simp only[Atom.chain] at o<;>first|exact o|exact o.1
    refine⟨b,l,rfl,?_,j⟩
    cases b with
    | ws d=>simpa[Atom.bytes,Atom.head] using h
    | word s=>
     obtain⟨⟨d,m,rfl,_⟩,_⟩:=j
     simpa[Atom.bytes,Atom.head] using h
    | num s=>
     obtain⟨⟨d,m,rfl⟩,_⟩:=j
     simpa[Atom.bytes,Atom.head] using h
    | sg s=>
     have:∃d m,s=d::m:=by
      cases s with
      | nil=>rcases j with h|h<;>simp[eW,eh] at h
      | cons d m=>exact⟨d,m,rfl⟩
     obtain⟨d,m,rfl⟩:=this;simpa[Atom.bytes,Atom.head] using h
  have v:∀b:Atom,b.jF=false->b.fG->∀c,b.head=some c->b1 c=false:=by
   intro b O j c hc
   cases b with
   | ws d=>
    simp only[Atom.head,LG] at hc;subst hc;have:=xl d j
    simp[b1,this.1,this.2]
   | word s=>simp[Atom.jF] at O
   | num s=>simp[Atom.jF] at O
   | sg s=>
    have key:∀s∈eW++eh,∀c,s.head?=some c->b1 c=false:=by decide
    refine key s ?_ c hc;rcases j with h|h<;>simp[h]
  cases f with
  | zero=>omega
  | succ f=>
   have hl:((a::aI).flatMap Atom.bytes).length=a.bytes.length+(aI.flatMap Atom.bytes).length:=by rw[Lv,Ld]
   cases a with
   | ws c=>
    have hw:oM c=true:=aK;have hlen:(aI.flatMap Atom.bytes).length<f+1:=ab;have ao:=h7 aI (f+1) n acc o hlen (by simpa[Atom.count] using hn);have hs:aR false (c::aI.flatMap Atom.bytes)=aR false (aI.flatMap Atom.bytes):=by
     rw[aR,if_pos hw]
    simp only[Lv,Atom.bytes,List.singleton_append];unfold fq at ao ⊢;rw[hs]
    exact ao
   | word s=>
    obtain⟨⟨c,l,rfl,bi,z⟩,aa⟩:=aK;have cP:=wm c bi;have u:∀d,(aI.flatMap Atom.bytes).head?=some d->b1 d=false:=λd hd=>by
     obtain⟨b,l,has,O,j⟩:=q d hd;exact v b ((i b l has).1 rfl) j d O
    have e:=gV (p:=b1) (s:=c::l) (r:=aI.flatMap Atom.bytes) (by simp[z,b1,bi]) u;simp only[Lq] at e;have g:aR false (c::(l++aI.flatMap Atom.bytes))=c::(l++aI.flatMap Atom.bytes):=by
     rw[aR,if_neg (by simp[cP.1]),if_neg (by simp[cP.2])]
    simp only[Atom.count] at hn;have ao:=λt=>h7 aI f n (acc++[t]) o (by simp only[Atom.bytes,Lo] at hl;omega) (by simp;omega);simp only[Lv,Atom.bytes,Lq];unfold fq;simp only[g,bi,if_true,e.1,e.2];rw[if_neg ?_,if_neg ab]
    .exact pR (ao _) rfl (by simp)
    .rcases aa with h|h
     .simp[h]
     .have ap:¬16<(c::l).length:=ab
      simp only[ap,decide_false,Bool.and_false,LJ,not_false_eq_true]
   | num s=>
    obtain⟨⟨c,l,rfl⟩,hd,bD⟩:=aK;simp only[List.all_cons,Ln] at hd;have cP:=yB c hd.1;have u:∀d,(aI.flatMap Atom.bytes).head?=some d->br d=false:=λd hd=>by
     obtain⟨b,l,has,O,j⟩:=q d hd;have:=v b ((i b l has).1 rfl) j d O;simp only[b1,Bool.or_eq_false_iff] at this;exact this.2
    have e:=gV (p:=br) (s:=c::l) (r:=aI.flatMap Atom.bytes) (by simp[hd]) u;simp only[Lq] at e;have g:aR false (c::(l++aI.flatMap Atom.bytes))=c::(l++aI.flatMap Atom.bytes):=by
     rw[aR,if_neg (by simp[cP.1]),if_neg (by simp[cP.2.1])]
    simp only[Atom.count] at hn;have ao:=λt=>h7 aI f n (acc++[t]) o (by simp only[Atom.bytes,Lo] at hl;omega) (by simp;omega);simp only[Lv,Atom.bytes,Lq];unfold fq;simp only[g,cP.2.2,LJ,if_false,hd.1,if_true,e.1,e.2];rw[if_neg ab,if_neg ab]
    exact pR (ao _) rfl (by simp)
   | sg s=>
    simp only[Atom.count] at hn;have ao:=λt=>h7 aI f n (acc++[t]) o (by
     have:1<=s.length:=by
      cases s with
      | nil=>rcases aK with h|h<;>simp[eW,eh] at h
      | cons d m=>simp
     simp only[Atom.bytes] at hl;omega) (by simp;omega)
    have aD:∀s∈eW,∃c d,s=[c,d]/\oM c=false/\c≠47/\bM c=false/\br c=false:=by
     intro s hs;simp only[eW,Lr,List.not_mem_nil,or_false] at hs;rcases hs with rfl|rfl|rfl|rfl|rfl|rfl<;>exact⟨_,_,rfl,by decide,by decide,by decide,by decide⟩
    have ae:∀s∈eh,∃c,s=[c]/\oM c=false/\bM c=false/\br c=false:=by
     intro s hs;simp only[eh,Lr,List.not_mem_nil,or_false] at hs;rcases hs with rfl|rfl|rfl|rfl|rfl|rfl|rfl|rfl|rfl|rfl|rfl|rfl|rfl|rfl|rfl|rfl|rfl<;>exact⟨_,rfl,by decide,by decide,by decide⟩
    by_cases bv:s∈eW
    .obtain⟨c,d,rfl,cd,bJ,aZ,H⟩:=aD s bv;have g:aR false (c::d::aI.flatMap Atom.bytes)=c::d::aI.flatMap Atom.bytes:=by
      rw[aR,if_neg (by simp[cd]),if_neg (by simp[bJ])]
     have k:eV (c::d::aI.flatMap Atom.bytes)=2:=by simp[eV,bv]
     exact Gz
    .have b6:s∈eh:=aK.resolve_left bv;obtain⟨c,rfl,cd,aZ,H⟩:=ae s b6;have bR:∀d,(aI.flatMap Atom.bytes).head?=some d->[c,d]∉eW/\¬(c=47/\d=47):=λd hd=>by
      obtain⟨b,l,has,O,_⟩:=q d hd;have:=(i b l has).2 [c] rfl b6 d O;simpa using this
     have g:aR false (c::aI.flatMap Atom.bytes)=c::aI.flatMap Atom.bytes:=by
      rw[aR,if_neg (by simp[cd]),if_neg ?_];rintro⟨e1,e2⟩;exact(bR 47 e2).2 ⟨e1,rfl⟩
     have k:eV (c::aI.flatMap Atom.bytes)=1:=by
      unfold eV;rw[if_neg ?_,if_pos (decide_eq_true (by simpa using b6))];intro h;simp only[Ln,LI,Lo] at h
      cases aQ:aI.flatMap Atom.bytes with
      | nil=>rw[aQ] at h;simp at h
      | cons d r=>
       rw[aQ] at h;exact(bR d (by rw[aQ];rfl)).1 (by simpa using h.1)
     exact Gz
theorem wo(aI:List Atom)(f n:Nat)(acc:List Tok)(h:Atom.chain aI)(J:(aI.flatMap Atom.bytes).length<f)(hn:acc.length+Atom.count aI<=4000):(fq f n (aI.flatMap Atom.bytes) acc).2.2=0:=by
 rw[h7 aI f n acc h J hn]
theorem mj(c:UInt8)(w:World):Calls prog 101 #[.int .u8 c.toNat] w λe ac=>e=.returned (.bool (bM c))/\w=ac:=by
 go_enter func101,ntmps101;go_wp2
 all_goals
  go_ret;refine⟨ret_bool ?_,rfl⟩;rw[Bool.eq_iff_iff];simp[bM];omega
theorem k9(c:UInt8)(w:World):Calls prog 102 #[.int .u8 c.toNat] w λe ac=>e=.returned (.bool (br c))/\w=ac:=by
 go_enter func102,ntmps102;go_wp2
 all_goals
  go_ret;refine⟨ret_bool ?_,rfl⟩;rw[Bool.eq_iff_iff];simp[br];omega
theorem tv{x:ByteArray}(h:x≠s):(x.toList == s.toList)=false:=by
 refine beq_eq_false_iff_ne.2 λe=>h ?_;rw[ByteArray.ext_iff];rw[Go.Lib.toList_data,Go.Lib.toList_data] at e;exact Array.toList_inj.1 e
def hasB(l:LQ)(s:ByteArray):Bool:=l.any λx=>decide (x=s)
theorem yK{l:LQ}(h:∀(j:Nat) (x:ByteArray),l[j]?=some x->x≠s):hasB l s=false:=by
 unfold hasB;rw[List.any_eq_false];exact z1
theorem yL{l:LQ}{j:Nat}(h:l[j]?=some s):hasB l s=true:=by
 unfold hasB;rw[List.any_eq_true];exact⟨s,Le h,by simp⟩
theorem oZ(A:LP)(n c:Nat)(l:LQ)(s:ByteArray)(w:World)(h:cK (EF oF) 1 w w.heap.size A n l)(hn:n<=1000000) :
  Calls prog 122 #[.slice A n c,.string s] w λe ac=>e=.returned (.bool (hasB l s))/\w=ac:=by
 have H:=ad h;clear h;go_enter func122,ntmps122;go_wp2
 go_loop [5] (λi=>∃k:Nat,k<=n/\i=.int .i64 k/\∀(j:Nat) (x:ByteArray),j<k->l[j]?=some x->x≠s) (λi=>n - (intOf i).toNat)
 case atStart=>exact⟨0,Lx _,rfl,λj x h=>ab⟩
 case round=>
  obtain⟨k,ai,rfl,a6⟩:=hrel;have bY:=ad a6;clear a6;by_cases aw:k<n
  .obtain⟨b,o,x,rfl,O,hx,hc⟩:=H.str aw;have aR:=ad hx;clear hx;by_cases hs:x=s
   .subst hs;go_wp2;go_ret;exact⟨ret_bool (yL aR.o).symm,rfl⟩
   .have q:=tv hs;have bB:=ad hs;clear hs;go_wp2
    go_round
    case rel=>exact⟨k+1,ab,by go_num,λj y bd a4=>by
     by_cases z:j=k
     .subst z;rw[aR.o] at a4;injection a4 with a4;subst a4;exact bB.o
     .exact bY.o j y ab a4⟩
    case measure=>exact az
  .have aW:k=n:=ab;have co:=ad aW;clear aW;go_wp2;go_ret;exact⟨ret_bool (yK λj x bd=>bY.o j x (by have:=(List.getElem?_eq_some_iff.1 bd).1;have:=H.1;have:=co.o;omega) bd).symm,rfl⟩
theorem m3(w:World)(cs:Array Value)(t:TypeId)(l:LQ)(hc:cs=(l.map Value.string).toArray)(hl:l.length=n):cK (EF oF) 1 (w.alloc (.cells cs t)) (w.alloc (.cells cs t)).heap.size (some ⟨w.heap.size,0,none⟩) n l:=by
 subst hc;refine⟨hl,λ_=>⟨w.heap.size,0,rfl,by simp,λk x hx=>⟨oF x,rfl,rfl,λj v bd=>?_⟩⟩⟩;have b9:j=0/\v=.string x:=by
  exact zO
 obtain⟨rfl,rfl⟩:=b9;rw[(an.new w t _).cell];simp[hx]
def strOf(l:List UInt8):ByteArray:=⟨l.toArray⟩
theorem mW(L:List (List UInt8))(s:ByteArray):hasB (L.map strOf) s=decide (s.data.toList∈L):=by
 unfold hasB;rw[Bool.eq_iff_iff,List.any_eq_true,LI];constructor
 .rintro⟨x,hx,he⟩;obtain⟨y,a4,rfl⟩:=Lz.1 hx;simp only[LI] at he;subst he;exact a4
 .intro h;refine⟨strOf s.data.toList,Lz.2 ⟨_,h,rfl⟩,?_⟩;simp[strOf]
def ib(s:ByteArray):Bool:=cn s.data.toList
theorem m9(s:ByteArray)(w:World):Calls prog 103 #[.string s] w λe ac=>e=.returned (.bool (ib s))/\Ext w ac:=by
 go_enter func103,ntmps103;go_wp2_with(fail);refine(oZ _ 11 11 (qY.map strOf) s _ (m3 w _ _ _ rfl rfl) ab).mono ?_;rintro e ac ⟨rfl,rfl⟩;go_wp2;go_ret;exact⟨ret_bool (mW _ _),LL.alloc _⟩
def jH(s:ByteArray):Bool:=bq s.data.toList
theorem r4{x:UInt8}(hx:l[k]?=some x)(hl:bM x=false)(ai:k=0\/br x=false):bq l=false:=by
 cases l with
 | nil=>simp at hx
 | cons c l=>
  unfold bq;simp only[Bool.and_eq_false_iff];left;left
  cases k with
  | zero=>
   simp at hx;subst hx
   exact .inl hl
  | succ k=>
   right;rw[List.getElem?_cons_succ] at hx;have hd:=ai.resolve_left ab;rw[List.all_eq_false];exact⟨x,Le hx,by simp[b1,hl,hd]⟩
theorem wB(h:∀(j:Nat) (x:UInt8),l[j]?=some x->bM x=true\/(0<j/\br x=true)):bq l=(decide (1<=l.length) && decide (l.length<=16) && !cn l):=by
 cases l with
 | nil=>rfl
 | cons c l=>
  have h0:=(h 0 c rfl).resolve_right ab;have aI:l.all b1=true:=by
   rw[List.all_eq_true];intro x hx;obtain⟨j,bd⟩:=List.getElem?_of_mem hx;have:=h (j+1) x (by rw[List.getElem?_cons_succ];exact bd);unfold b1;rcases this with ae|ae<;>simp[ae]
  unfold bq;simp[h0,aI]
theorem byte_at(h:k<s.size):s.data.toList[k]?=some s[k]:=by
 rw[List.getElem?_eq_getElem (by simpa using h)];rfl
theorem g1(s:ByteArray)(w:World)(hs:s.size<=1000000):Calls prog 108 #[.string s] w λe ac=>e=.returned (.bool (jH s))/\Ext w ac:=by
 go_enter func108,ntmps108;go_wp2
 go_loop [3] (λi=>∃k:Nat,k<=s.size/\i=.int .i64 k/\∀(j:Nat) (x:UInt8),j<k->s.data.toList[j]?=some x->bM x=true\/(0<j/\br x=true)) (λi=>s.size - (intOf i).toNat)
 case atStart=>exact⟨0,Lx _,rfl,λj x h=>ab⟩
 case round=>
  obtain⟨k,ai,rfl,a6⟩:=hrel;have bY:=ad a6;clear a6;by_cases aw:k<s.size
  .have cj:=ad (byte_at aw);have step:(bM s[k]=true\/(0<k/\br s[k]=true))->∀(j:Nat) (x:UInt8),j<k+1->s.data.toList[j]?=some x->bM x=true\/(0<j/\br x=true):=by
    intro h j x bd hx;by_cases z:j=k
    .subst z;rw[cj.o] at hx;injection hx with hx;subst hx;exact h
    .exact bY.o j x ab hx
   have bB:=ad step;clear step;go_wp2_with(fail);refine(mj s[k] w).mono ?_;rintro e ac ⟨rfl,rfl⟩;by_cases hl:bM s[k]=true
   .rw[hl];have bN:=ad hl;clear hl;go_wp2
    go_round
    case rel=>exact⟨k+1,ab,by go_num,bB.o (.inl bN.o)⟩
    case measure=>exact az
   .have ax:bM s[k]=false:=by simpa using hl
    rw[ax];have bN:=ad ax;clear hl ax;by_cases bw:k=0
    .have co:=ad bw;subst bw;go_wp2;go_ret;exact⟨ret_bool (r4 cj.o bN.o (.inl rfl)).symm,LL⟩
    .have q:((k:Int) == 0)=false:=by simpa using bw
     have aq:(k == 0)=false:=by simpa using bw
     have co:=ad bw;clear bw;go_wp2_with(fail);refine(k9 s[k] w).mono ?_;rintro e ac ⟨rfl,rfl⟩;by_cases hd:br s[k]=true
     .rw[hd];have cJ:=ad hd;clear hd;go_wp2
      go_round
      case rel=>exact⟨k+1,ab,by go_num,bB.o (.inr ⟨by have:=co.o;omega,cJ.o⟩)⟩
      case measure=>exact az
     .have G:br s[k]=false:=by simpa using hd
      rw[G];have cJ:=ad G;clear hd G;go_wp2;go_ret;exact⟨ret_bool (r4 cj.o bN.o (.inr cJ.o)).symm,LL⟩
  .have aW:k=s.size:=ab;have m:jH s=(decide (1<=s.size) && decide (s.size<=16) && !ib s):=by
    have:=wB (l:=s.data.toList) (λj x hx=>bY.o j x (by have:=(List.getElem?_eq_some_iff.1 hx).1;simp at this;rw[aW];exact this) hx);simpa[jH,ib] using this
   have cj:=ad m;subst aW;clear m;by_cases ae:1<=s.size/\s.size<=16
   .have q1:decide ((s.size:Int)>=1)=true:=by simp;omega
    have cp:decide ((s.size:Int)<=16)=true:=by simp;omega
    have aZ:=ad (show jH s=!ib s by rw[cj.o];simp[ae]);clear ae;go_wp2_with(fail);refine(m9 s w).mono ?_;rintro e ac ⟨rfl,O⟩;have bx:=ad O;clear O;go_wp2;go_ret;exact⟨ret_bool aZ.symm,bx.o⟩
   .have aZ:=ad (show jH s=false by rw[cj.o];simp;omega);by_cases aD:1<=s.size
    .have q1:decide ((s.size:Int)>=1)=true:=by simp;omega
     have cp:decide ((s.size:Int)<=16)=false:=by simp;omega
     clear ae aD;go_wp2;go_ret;exact⟨ret_bool aZ.symm,LL⟩
    .have q1:decide ((s.size:Int)>=1)=false:=by simp;omega
     clear ae aD;go_wp2;go_ret;exact⟨ret_bool aZ.symm,LL⟩
structure fb(w:World)(b o cap:Nat)(s:ByteArray):Prop where
 bytes:Lib.Bytes w b o s
 lt:b<w.heap.size
 fit:s.size<=cap
 small:s.size<=1000000
theorem fb.on{ac:World}(h:fb w b o cap s)(O:Ext w ac):fb ac b o cap s:=
 ⟨λi ak=>(O.cell h.lt (λh=>h)).trans (h.bytes i ak),Lc h.lt O.size,h.fit,h.small⟩
theorem ga(s:ByteArray)(j n:Nat):(s.extract j (j+n)).data.toList=(s.data.toList.drop j).take n:=by
 rw[Lib.extract_data,Nat.add_sub_cancel_left]
theorem w7(s:ByteArray):strOf s.data.toList=s:=by
 unfold strOf;cases s
 simp
theorem nV(hc:s.size<=cap)(hn:0<n)(ai:k+n<=s.size)(W:World):
  (Instr.slice 78 (.slice (some ⟨b,o,none⟩) s.size cap) (some (.int .i64 (k:Int))) (some (.int .i64 ((k:Int)+(n:Int)))) none).run prog W=.ok (.slice (some ⟨b,o+k,none⟩) n (cap - k)) W:=by
 have:=Lib.run_slice_window (P:=prog) W 78 5 Tryz.underlying78 (λw=>by kernel_rfl) b o s.size cap k (k+n) ab ab;rw[show k+n - k=n by omega,Int.natCast_add] at this;exact this
theorem kb(h:fb w b o cap s)(c:Nat)(ai:k+n<=s.size):
  (convert 78 9 (.slice (some ⟨b,o+k,none⟩) n c)).run prog w=.ok (.string (s.extract k (k+n))) w:=
 Lib.run_convert_window w _ _ _ Tryz.underlying78 Tryz.underlying5 Tryz.underlying9 b o s h.bytes k n c ai
theorem Ea(s:ByteArray)(b o cap k:Nat)(w:World)(h:fb w b o cap s)(ai:k<s.size) :
  Calls prog 105 #[.slice (some ⟨b,o,none⟩) s.size cap,.int .i64 k] w λe ac=>e=.returned (.int .i64 (eV (s.data.toList.drop k)))/\Ext w ac:=by
 have H:=ad h;have U:=h.small;have K:=h.fit;have s1:=λW=>nV (b:=b) (o:=o) h.fit (k:=k) (n:=1) ab ab W;have b9:∀W,Ext w W->∀(cs:Array Value) (t:TypeId),(convert 78 9 (.slice (some ⟨b,o+k,none⟩) 1 (cap - k))).run prog (W.alloc (.cells cs t))=.ok (.string (s.extract k (k+1))) (W.alloc (.cells cs t)):=λW be cs t=>kb (h.on (be.alloc (.cells cs t))) (k:=k) (n:=1) (cap - k) ab;have av:=ad b9;clear b9;have hf:(0:Int)<=(k:Int):=ab;clear h;by_cases aD:k+1<s.size
 .have s2:=λW=>nV (b:=b) (o:=o) K (k:=k) (n:=2) ab ab W;have c2:=λ(cs:Array Value) (t:TypeId)=>kb (H.on (LL.alloc (.cells cs t))) (k:=k) (n:=2) (cap - k) ab;simp only[Int.cast_ofNat_Int] at s1 s2;go_enter func105,ntmps105;go_wp2_with(fail);refine(oZ _ 6 6 (eW.map strOf) _ _ (m3 w _ _ _ rfl rfl) ab).mono ?_;rintro e ac ⟨rfl,rfl⟩;rw[mW,ga];have I:decide (2<=(s.data.toList.drop k).length)=true:=by simp;omega
  by_cases hm:(s.data.toList.drop k).take 2∈eW
  .have aZ:=ad (show eV (s.data.toList.drop k)=2 by unfold eV;rw[decide_eq_true hm,I];rfl);rw[decide_eq_true hm];clear hm I;exact CV
  .have aZ:=ad (show eV (s.data.toList.drop k)=if decide ((s.data.toList.drop k).take 1∈eh) then 1 else 0 by unfold eV;rw[decide_eq_false hm];rfl);rw[decide_eq_false hm];clear hm I c2 s2;generalize be:World.alloc w _=W;have aE:=bb be;have c1:=av.o W aE;clear be;go_wp2_with(fail);refine(oZ _ 17 17 (eh.map strOf) _ _ (m3 W _ _ _ rfl rfl) ab).mono ?_;rintro e ac ⟨rfl,rfl⟩;rw[mW,ga];by_cases hm:(s.data.toList.drop k).take 1∈eh
   .rw[decide_eq_true hm] at aZ ⊢;exact z3
   .rw[decide_eq_false hm] at aZ ⊢;exact z3
 .have I:decide (2<=(s.data.toList.drop k).length)=false:=by simp;omega
  have cw:decide ((k:Int)+1<(s.size:Int))=false:=by simp;omega
  have cO:¬(k:Int)+1<(s.size:Int):=ab;have aZ:=ad (show eV (s.data.toList.drop k)=if decide ((s.data.toList.drop k).take 1∈eh) then 1 else 0 by unfold eV;rw[I,Bool.and_false];rfl);simp only[Int.cast_ofNat_Int] at s1;clear I;go_enter func105,ntmps105;have c1:=av.o w LL;go_wp2_with(fail);refine(oZ _ 17 17 (eh.map strOf) _ _ (m3 w _ _ _ rfl rfl) ab).mono ?_;rintro e ac ⟨rfl,rfl⟩;rw[mW,ga];by_cases hm:(s.data.toList.drop k).take 1∈eh
  .rw[decide_eq_true hm] at aZ ⊢;clear hm;exact CV
  .rw[decide_eq_false hm] at aZ ⊢;clear hm;exact CV
theorem fb.byte(h:fb w b o cap s)(ai:k<s.size):w.cell? ⟨b,o+k,none⟩=some (.int .u8 (s[k].toNat:Int)):=h.bytes k ai
theorem c6(h:k<s.size):s.data.toList.drop k=s[k]::s.data.toList.drop (k+1):=by
 rw[List.drop_eq_getElem_cons (by simpa using h)];rfl
theorem q8(c:UInt8):oM c=true↔c.toNat=32\/c.toNat=9\/c.toNat=10\/c.toNat=13:=by
 simp only[oM,Bool.or_eq_true,beq_iff_eq,<-UInt8.toNat_inj];show ((c.toNat=32\/c.toNat=9)\/c.toNat=10)\/c.toNat=13↔_
 omega
theorem oS(c:UInt8):c=47↔c.toNat=47:=by rw[<-UInt8.toNat_inj];rfl
theorem xN(c:UInt8):c=10↔c.toNat=10:=by rw[<-UInt8.toNat_inj];rfl
theorem lB(h:oM c=true):aR false (c::l)=aR false l:=by rw[aR,if_pos h]
theorem nQ(h:oM c=false)(aD:¬(c=47/\l.head?=some 47)):aR false (c::l)=c::l:=by rw[aR,if_neg (by simp[h]),if_neg aD]
theorem yg(h:c≠10):aR true (c::l)=aR true l:=by rw[aR,if_neg h]
theorem Ec(h:c=47)(aD:l.head?=some 47):aR false (c::l)=aR true (c::l):=by
 subst h;have a:aR false (47::l)=aR true l:=by rw[aR,if_neg (by decide),if_pos ⟨rfl,aD⟩]
 exact a.trans (yg (by decide)).symm
theorem Ee:aR true (10::l)=aR false (10::l):=by
 have a:aR true (10::l)=aR false l:=by rw[aR,if_pos rfl]
 exact a.trans (lB (by decide)).symm
theorem Ed(b:Bool):aR b []=[]:=by cases b<;>rfl
theorem kZ(s:ByteArray)(b o cap k:Nat)(w:World)(h:fb w b o cap s)(ai:k<=s.size) :
  Calls prog 100 #[.slice (some ⟨b,o,none⟩) s.size cap,.int .i64 k] w λe ac=>e=.returned (.int .i64 ((s.size:Int) - (aR false (s.data.toList.drop k)).length))/\w=ac:=by
 have H:=ad h;have U:=h.small;clear h;go_enter func100,ntmps100;go_wp2
 go_loop [1] (λi=>∃j:Nat,j<=s.size/\i=.int .i64 j/\aR false (s.data.toList.drop k)=aR false (s.data.toList.drop j)) (λi=>s.size - (intOf i).toNat)
 case atStart=>exact⟨k,ai,rfl,rfl⟩
 case round=>
  obtain⟨j,bd,rfl,g⟩:=hrel;have t:=ad g;clear g;by_cases aw:j<s.size
  .have hc:=H.byte aw;have aY:(0:Int)<=(j:Int):=ab;have R:(j:Int)<(s.size:Int):=ab;by_cases I:s[j].toNat=32
   .have E:(((s[j].toNat:Nat):Int) == 32)=true:=by simp[I]
    have aH:=ad (t.trans ((congrArg _ (c6 aw)).trans (lB ((q8 _).2 ab))));clear I;go_wp2
    go_round
    case rel=>exact⟨j+1,ab,by go_num,aH.o⟩
    case measure=>exact az
   by_cases aG:s[j].toNat=9
   .have cx:(((s[j].toNat:Nat):Int) == 9)=true:=by simp[aG]
    have n:(((s[j].toNat:Nat):Int) == 32)=false:=by simp;omega
    have aH:=ad (t.trans ((congrArg _ (c6 aw)).trans (lB ((q8 _).2 ab))));clear aG I;go_wp2
    go_round
    case rel=>exact⟨j+1,ab,by go_num,aH.o⟩
    case measure=>exact az
   by_cases c:s[j].toNat=10
   .have EI:(((s[j].toNat:Nat):Int) == 10)=true:=by simp[c]
    have n:(((s[j].toNat:Nat):Int) == 32)=false:=by simp;omega
    have A:(((s[j].toNat:Nat):Int) == 9)=false:=by simp;omega
    have aH:=ad (t.trans ((congrArg _ (c6 aw)).trans (lB ((q8 _).2 ab))));clear c I aG;go_wp2
    go_round
    case rel=>exact⟨j+1,ab,by go_num,aH.o⟩
    case measure=>exact az
   by_cases f:s[j].toNat=13
   .have D:(((s[j].toNat:Nat):Int) == 13)=true:=by simp[f]
    have n:(((s[j].toNat:Nat):Int) == 32)=false:=by simp;omega
    have A:(((s[j].toNat:Nat):Int) == 9)=false:=by simp;omega
    have x:(((s[j].toNat:Nat):Int) == 10)=false:=by simp;omega
    have aH:=ad (t.trans ((congrArg _ (c6 aw)).trans (lB ((q8 _).2 ab))));clear f I aG c;go_wp2
    go_round
    case rel=>exact⟨j+1,ab,by go_num,aH.o⟩
    case measure=>exact az
   have n:(((s[j].toNat:Nat):Int) == 32)=false:=by simp;omega
   have A:(((s[j].toNat:Nat):Int) == 9)=false:=by simp;omega
   have x:(((s[j].toNat:Nat):Int) == 10)=false:=by simp;omega
   have C:(((s[j].toNat:Nat):Int) == 13)=false:=by simp;omega
   have np:oM s[j]=false:=by
    cases hw:oM s[j] with
    | false=>rfl
    | true=>have:=(q8 _).1 hw;omega
   have bI:=ad np;clear np I aG c f;have r:∀l:List UInt8,l=s.data.toList.drop j->((s.size:Int) - l.length)=j:=λl hl=>by subst hl;simp;omega
   by_cases aD:j+1<s.size
   .have bR:=H.byte aD;have bF:((j+1:Nat):Int)=(j:Int)+1:=ab;have aK:decide ((j:Int)+1<(s.size:Int))=true:=by simp;omega
    by_cases a:s[j].toNat=47
    .have y:(((s[j].toNat:Nat):Int) == 47)=true:=by simp[a]
     by_cases d:s[j+1].toNat=47
     .have z:(((s[j+1].toNat:Nat):Int) == 47)=true:=by simp[d]
      have bQ:=ad (show aR false (s.data.toList.drop k)=aR true (s.data.toList.drop j) by
       rw[t.o,c6 aw];refine Ec ((oS _).2 a) ?_;rw[c6 aD,List.head?_cons,(oS _).2 d])
      have bY:=ad (show s[j].toNat≠10 by omega);clear a d;go_wp2
      go_loop [1] (λi=>∃m:Nat,j<=m/\m<=s.size/\i=.int .i64 m/\aR false (s.data.toList.drop k)=aR true (s.data.toList.drop m)) (λi=>s.size - (intOf i).toNat)
      case atStart=>exact⟨j,Lb _,bd,rfl,bQ.o⟩
      case round=>
       obtain⟨m,F,hm,rfl,P⟩:=hrel;have dL:=ad P;clear P;by_cases cf:m<s.size
       .have v:=H.byte cf;have cu:(0:Int)<=(m:Int):=ab;have cr:(m:Int)<(s.size:Int):=ab;by_cases c:s[m].toNat=10
        .have EI:(((s[m].toNat:Nat):Int) != 10)=false:=by simp[c]
         have B:m≠j:=by
          rintro rfl;exact bY.o c
         have a8:=ad (show aR false (s.data.toList.drop k)=aR false (s.data.toList.drop m) by rw[dL.o,c6 cf,(xN _).2 c];exact Ee);clear c;go_wp2
         go_round
         case rel=>exact⟨m,hm,rfl,a8.o⟩
         case measure=>exact az
        .have EI:(((s[m].toNat:Nat):Int) != 10)=true:=by simp;omega
         have a8:=ad (show aR false (s.data.toList.drop k)=aR true (s.data.toList.drop (m+1)) by rw[dL.o,c6 cf];exact yg (λh=>c ((xN _).1 h)));clear c;go_wp2
         go_round
         case rel=>exact⟨m+1,ab,ab,by go_num,a8.o⟩
         case measure=>exact az
       .have q:m=s.size:=ab;have a8:=ad (show aR false (s.data.toList.drop k)=aR false (s.data.toList.drop m) by
         rw[dL.o,q,LH (by simp)];rfl)
        clear q;go_wp2
        go_round
        case rel=>exact⟨m,hm,rfl,a8.o⟩
        case measure=>exact az
     .have z:(((s[j+1].toNat:Nat):Int) == 47)=false:=by simp;omega
      have aZ:=ad (r _ (t.trans ((congrArg _ (c6 aw)).trans ((nQ bI.o (by
       rintro⟨_,h⟩;rw[c6 aD,List.head?_cons] at h;injection h with h;exact d ((oS _).1 h))).trans (c6 aw).symm))))
      clear a d r;go_wp2;go_ret;exact⟨ret_int aZ.symm,rfl⟩
    .have y:(((s[j].toNat:Nat):Int) == 47)=false:=by simp;omega
     have aZ:=ad (r _ (t.trans ((congrArg _ (c6 aw)).trans ((nQ bI.o (λh=>a ((oS _).1 h.1))).trans (c6 aw).symm))));clear a r;go_wp2;go_ret;exact⟨ret_int aZ.symm,rfl⟩
   .have aK:decide ((j:Int)+1<(s.size:Int))=false:=by simp;omega
    have aZ:=ad (r _ (t.trans ((congrArg _ (c6 aw)).trans ((nQ bI.o (by
     rintro⟨_,h⟩;rw[LH (by simp;omega)] at h;cases h)).trans (c6 aw).symm))))
    clear aD r;go_wp2;go_ret;exact⟨ret_int aZ.symm,rfl⟩
  .have u:j=s.size:=ab;have aZ:=ad (show (s.size:Int) - (aR false (s.data.toList.drop k)).length=s.size by rw[t.o,u,LH (by simp)];simp[Ed]);subst u;go_wp2;go_ret;exact⟨ret_int aZ.symm,rfl⟩
end Go.Proofs.YtflecliffjbleaaGreat
