/- Part 2 of the proof. No condition of its own. -/
import Derived.Test.YtnigabjngpnbiaaGreatQ01
namespace Go.Proofs.YtnigabjngpnbiaaGreat
open Go.RowKit Go.Proofs.Tryz
set_option maxRecDepth 1000000
set_option maxHeartbeats 25600000
set_option linter.unusedVariables false
def nF(c:UInt8):Bool:=c == 32 || c == 9 || c == 10 || c == 13
def bQ(c:UInt8):Bool:=(decide (97<=c.toNat) && decide (c.toNat<=122)) || (decide (65<=c.toNat) && decide (c.toNat<=90)) || decide (c.toNat=95)
def bq(c:UInt8):Bool:=decide (48<=c.toNat) && decide (c.toNat<=57)
def cb(c:UInt8):Bool:=bQ c || bq c
def rR:List (List UInt8):=[[118,97,114],[109,117,116,101,120],[114,109,117,116,101,120],[102,117,110,99],[108,111,99,107],[117,110,108,111,99,107],[103,111],[105,102],[101,108,115,101],[119,104,105,108,101],[114,101,116,117,114,110]]
def c9(s:List UInt8):Bool:=decide (s∈rR)
def bw(s:List UInt8):Bool:=(match s with|[]=>false|c::l=>bQ c && l.all cb) && decide (s.length<=16) && !c9 s
def eO:List (List UInt8):=[[60,61],[62,61],[61,61],[33,61],[38,38],[124,124]]
def ef:List (List UInt8):=[[40],[41],[123],[125],[91],[93],[44],[59],[61],[43],[45],[42],[47],[37],[60],[62],[33]]
def ey(l:List UInt8):Nat:=if decide (l.take 2∈eO) && decide (2<=l.length) then 2 else if decide (l.take 1∈ef) then 1 else 0
def aK:Bool->List UInt8->List UInt8
 | _,[]=>[]
 | true,c::l=>if c=10 then aK false l else aK true l
 | false,c::l=>if nF c then aK false l else if c=47/\l.head?=some 47 then aK true l else c::l
theorem iY:∀(b:Bool) (l:List UInt8),(aK b l).length<=l.length
 | _,[]=>by unfold aK;simp
 | true,c::l=>by
  unfold aK;split
  .have:=iY false l;simp;omega
  .have:=iY true l;simp;omega
 | false,c::l=>by
  unfold aK;split
  .have:=iY false l;simp;omega
  .split
   .have:=iY true l;simp;omega
   .simp
def h2:Int->List UInt8->Int
 | n,[]=>n
 | n,c::l=>if n > (9223372036854775807 - ((c.toNat:Int) - 48)) / 10 then -1 else h2 (10*n+((c.toNat:Int) - 48)) l
def nc(l:List UInt8):Int:=h2 0 l
structure Tok where
 kind:Int
 text:List UInt8
 num:Int
 pos:Int
def eU:Nat->Nat->List UInt8->List Tok->List Tok×Int×Int
 | 0,_,_,_=>([],0,1)
 | f+1,n,l,acc=>
  match aK false l with
  | []=>(acc++[⟨5,[],0,n⟩],n,0)
  | c::r=>
   let at_:Int:=(n:Int) - (r.length+1)
   if bQ c then
    let t:=(c::r).takeWhile cb
    if !c9 t && decide (16<t.length) then ([],at_,3)
    else if acc.length=4000 then ([],at_,3)
    else eU f n ((c::r).dropWhile cb) (acc++[⟨if c9 t then 3 else 1,t,0,at_⟩])
   else if bq c then
    let t:=(c::r).takeWhile bq
    if nc t<0 then ([],at_,2)
    else if acc.length=4000 then ([],at_,3)
    else eU f n ((c::r).dropWhile bq) (acc++[⟨2,t,nc t,at_⟩])
   else if ey (c::r)=0 then ([],at_,1)
   else if acc.length=4000 then ([],at_,3)
   else eU f n ((c::r).drop (ey (c::r))) (acc++[⟨4,(c::r).take (ey (c::r)),0,at_⟩])
def cd(l:List UInt8):List Tok×Int×Int:=if 262144<l.length then ([],262144,3) else eU (l.length+1) l.length l []
inductive Atom where
 | ws (c:UInt8)
 | word (s:List UInt8)
 | num (s:List UInt8)
 | sg (s:List UInt8)
def Atom.bytes:Atom->List UInt8
 | .ws c=>[c]
 | .word s=>s
 | .num s=>s
 | .sg s=>s
def Atom.fv:Atom->Prop
 | .ws c=>nF c=true
 | .word s=>(∃c l,s=c::l/\bQ c=true/\l.all cb=true)/\(c9 s=true\/s.length<=16)
 | .num s=>(∃c l,s=c::l)/\s.all bq=true/\0<=nc s
 | .sg s=>s∈eO\/s∈ef
def Atom.jR:Atom->Bool
 | .word _=>true
 | .num _=>true
 | _=>false
def Atom.head:Atom->Option UInt8
 | .ws c=>some c
 | .word s=>s.head?
 | .num s=>s.head?
 | .sg s=>s.head?
def Atom.fits(a b:Atom):Prop:=
 (a.jR=true->b.jR=false)/\∀s,a=.sg s->s∈ef->∀c,b.head=some c->(s++[c])∉eO/\¬(s=[47]/\c=47)
def Atom.count:List Atom->Nat
 | []=>0
 | .ws _::l=>Atom.count l
 | _::l=>Atom.count l+1
def Atom.chain:List Atom->Prop
 | []=>True
 | [a]=>a.fv
 | a::b::l=>a.fv/\a.fits b/\Atom.chain (b::l)
theorem vy(c:UInt8)(h:nF c=true):bQ c=false/\bq c=false:=by
 simp only[nF,Bool.or_eq_true,beq_iff_eq] at h;rcases h with((rfl|rfl)|rfl)|rfl<;>decide
theorem uo(c:UInt8)(h:bQ c=true):nF c=false/\c≠47:=by
 refine⟨?_,?_⟩
 .cases hw:nF c with
  | false=>rfl
  | true=>have:=(vy c hw).1;rw[h] at this;cases this
 .rintro rfl;revert h;decide
theorem w3(c:UInt8)(h:bq c=true):nF c=false/\c≠47/\bQ c=false:=by
 refine⟨?_,?_,?_⟩
 .cases hw:nF c with
  | false=>rfl
  | true=>have:=(vy c hw).2;rw[h] at this;cases this
 .rintro rfl;revert h;decide
 .simp only[bq,JU,Kc] at h;simp only[bQ,Bool.or_eq_false_iff,Bool.and_eq_false_iff,decide_eq_false_iff_not];omega
theorem gw{α:Type}{p:α->Bool}{s r:List α}(h:s.all p=true)(aZ:∀c,r.head?=some c->p c=false):(s++r).takeWhile p=s/\(s++r).dropWhile p=r:=by
 induction s with
 | nil=>
  cases r with
  | nil=>simp
  | cons c r=>have:=aZ c rfl;simp[this]
 | cons a s ab=>
  simp only[List.all_cons,JU] at h;have:=ab h.2;simp[h.1,this]
def qD(n:Nat):List Atom->List Tok
 | []=>[⟨5,[],0,n⟩]
 | .ws _::l=>qD n l
 | .word s::l=>⟨if c9 s then 3 else 1,s,0,(n:Int) - ((s++l.flatMap Atom.bytes).length:Int)⟩::qD n l
 | .num s::l=>⟨2,s,nc s,(n:Int) - ((s++l.flatMap Atom.bytes).length:Int)⟩::qD n l
 | .sg s::l=>⟨4,s,0,(n:Int) - ((s++l.flatMap Atom.bytes).length:Int)⟩::qD n l
theorem n8{acc L:List Tok}{k m q p:Int}{t u:List UInt8}{R:List Tok×Int×Int}{n:Int}(h:R=((acc++[⟨k,t,m,p⟩])++L,n,0))(hu:t=u)(hp:p=q):R=(acc++⟨k,u,m,q⟩::L,n,0):=by
 subst hu hp;rw[h,JW];rfl
theorem iQ:∀(aH:List Atom) (f n:Nat) (acc:List Tok),Atom.chain aH->(aH.flatMap Atom.bytes).length<f->acc.length+Atom.count aH<=4000->eU f n (aH.flatMap Atom.bytes) acc=(acc++qD n aH,(n:Int),0)
 | [],f,n,acc,_,aA,_=>by
  cases f with
  | zero=>omega
  | succ f=>simp[eU,aK,qD]
 | a::aH,f,n,acc,hc,aA,hn=>by
  have aS:a.fv:=by cases aH<;>simp only[Atom.chain] at hc<;>first|exact hc|exact hc.1
  have k:Atom.chain aH:=by
   cases aH with
   | nil=>trivial
   | cons b l=>exact hc.2.2
  have i:∀b l,aH=b::l->a.fits b:=λb l h=>by subst h;exact hc.2.1
  have o:∀c,(aH.flatMap Atom.bytes).head?=some c->∃b l,aH=b::l/\b.head=some c/\b.fv:=by
   intro c h
   cases aH with
   | nil=>simp at h
   | cons b l=>
    have j:b.fv:=by cases l<;>simp only[Atom.chain] at k<;>first|exact k|exact k.1
    refine⟨b,l,rfl,?_,j⟩
    cases b with
    | ws d=>simpa[Atom.bytes,Atom.head] using h
    | word s=>
     obtain⟨⟨d,m,rfl,_⟩,_⟩:=j
     simpa[Atom.bytes,Atom.head] using h
    | num s=>
     obtain⟨⟨d,m,rfl⟩,_⟩:=j
     simpa[Atom.bytes,Atom.head] using h
    | sg s=>
     have:∃d m,s=d::m:=by
      cases s with
      | nil=>rcases j with h|h<;>simp[eO,ef] at h
      | cons d m=>exact⟨d,m,rfl⟩
     obtain⟨d,m,rfl⟩:=this;simpa[Atom.bytes,Atom.head] using h
  have u:∀b:Atom,b.jR=false->b.fv->∀c,b.head=some c->cb c=false:=by
   intro b O j c hc
   cases b with
   | ws d=>
    simp only[Atom.head,Ka] at hc;subst hc;have:=vy d j
    simp[cb,this.1,this.2]
   | word s=>simp[Atom.jR] at O
   | num s=>simp[Atom.jR] at O
   | sg s=>
    have key:∀s∈eO++ef,∀c,s.head?=some c->cb c=false:=by decide
    refine key s ?_ c hc;rcases j with h|h<;>simp[h]
  cases f with
  | zero=>omega
  | succ f=>
   have hl:((a::aH).flatMap Atom.bytes).length=a.bytes.length+(aH.flatMap Atom.bytes).length:=by rw[J2,JK]
   cases a with
   | ws c=>
    have hw:nF c=true:=aS;have hlen:(aH.flatMap Atom.bytes).length<f+1:=ad;have ab:=iQ aH (f+1) n acc k hlen (by simpa[Atom.count] using hn);have hs:aK false (c::aH.flatMap Atom.bytes)=aK false (aH.flatMap Atom.bytes):=by
     rw[aK,if_pos hw]
    simp only[J2,Atom.bytes,List.singleton_append];unfold eU at ab ⊢;rw[hs]
    exact ab
   | word s=>
    obtain⟨⟨c,l,rfl,a8,G⟩,a6⟩:=aS;have cH:=uo c a8;have q:∀d,(aH.flatMap Atom.bytes).head?=some d->cb d=false:=λd hd=>by
     obtain⟨b,l,has,O,j⟩:=o d hd;exact u b ((i b l has).1 rfl) j d O
    have e:=gw (p:=cb) (s:=c::l) (r:=aH.flatMap Atom.bytes) (by simp[G,cb,a8]) q;simp only[JX] at e;have g:aK false (c::(l++aH.flatMap Atom.bytes))=c::(l++aH.flatMap Atom.bytes):=by
     rw[aK,if_neg (by simp[cH.1]),if_neg (by simp[cH.2])]
    simp only[Atom.count] at hn;have ab:=λt=>iQ aH f n (acc++[t]) k (by simp only[Atom.bytes,JV] at hl;omega) (by simp;omega);simp only[J2,Atom.bytes,JX];unfold eU;simp only[g,a8,if_true,e.1,e.2];rw[if_neg ?_,if_neg ad]
    .exact n8 (ab _) rfl (by simp)
    .rcases a6 with h|h
     .simp[h]
     .have am:¬16<(c::l).length:=ad
      simp only[am,decide_false,Bool.and_false,Kd,not_false_eq_true]
   | num s=>
    obtain⟨⟨c,l,rfl⟩,hd,bD⟩:=aS;simp only[List.all_cons,JU] at hd;have cH:=w3 c hd.1;have q:∀d,(aH.flatMap Atom.bytes).head?=some d->bq d=false:=λd hd=>by
     obtain⟨b,l,has,O,j⟩:=o d hd;have:=u b ((i b l has).1 rfl) j d O;simp only[cb,Bool.or_eq_false_iff] at this;exact this.2
    have e:=gw (p:=bq) (s:=c::l) (r:=aH.flatMap Atom.bytes) (by simp[hd]) q;simp only[JX] at e;have g:aK false (c::(l++aH.flatMap Atom.bytes))=c::(l++aH.flatMap Atom.bytes):=by
     rw[aK,if_neg (by simp[cH.1]),if_neg (by simp[cH.2.1])]
    simp only[Atom.count] at hn;have ab:=λt=>iQ aH f n (acc++[t]) k (by simp only[Atom.bytes,JV] at hl;omega) (by simp;omega);simp only[J2,Atom.bytes,JX];unfold eU;simp only[g,cH.2.2,Kd,if_false,hd.1,if_true,e.1,e.2];rw[if_neg ad,if_neg ad]
    exact n8 (ab _) rfl (by simp)
   | sg s=>
    simp only[Atom.count] at hn;have ab:=λt=>iQ aH f n (acc++[t]) k (by
     have:1<=s.length:=by
      cases s with
      | nil=>rcases aS with h|h<;>simp[eO,ef] at h
      | cons d m=>simp
     simp only[Atom.bytes] at hl;omega) (by simp;omega)
    have ap:∀s∈eO,∃c d,s=[c,d]/\nF c=false/\c≠47/\bQ c=false/\bq c=false:=by
     intro s hs;simp only[eO,JY,List.not_mem_nil,or_false] at hs;rcases hs with rfl|rfl|rfl|rfl|rfl|rfl<;>exact⟨_,_,rfl,by decide,by decide,by decide,by decide⟩
    have ac:∀s∈ef,∃c,s=[c]/\nF c=false/\bQ c=false/\bq c=false:=by
     intro s hs;simp only[ef,JY,List.not_mem_nil,or_false] at hs;rcases hs with rfl|rfl|rfl|rfl|rfl|rfl|rfl|rfl|rfl|rfl|rfl|rfl|rfl|rfl|rfl|rfl|rfl<;>exact⟨_,rfl,by decide,by decide,by decide⟩
    by_cases bz:s∈eO
    .obtain⟨c,d,rfl,cp,bE,cB,aI⟩:=ap s bz;have g:aK false (c::d::aH.flatMap Atom.bytes)=c::d::aH.flatMap Atom.bytes:=by
      rw[aK,if_neg (by simp[cp]),if_neg (by simp[bE])]
     have aX:ey (c::d::aH.flatMap Atom.bytes)=2:=by simp[ey,bz]
     exact FQ
    .have ct:s∈ef:=aS.resolve_left bz;obtain⟨c,rfl,cp,cB,aI⟩:=ac s ct;have H:∀d,(aH.flatMap Atom.bytes).head?=some d->[c,d]∉eO/\¬(c=47/\d=47):=λd hd=>by
      obtain⟨b,l,has,O,_⟩:=o d hd;have:=(i b l has).2 [c] rfl ct d O;simpa using this
     have g:aK false (c::aH.flatMap Atom.bytes)=c::aH.flatMap Atom.bytes:=by
      rw[aK,if_neg (by simp[cp]),if_neg ?_];rintro⟨e1,e2⟩;exact(H 47 e2).2 ⟨e1,rfl⟩
     have aX:ey (c::aH.flatMap Atom.bytes)=1:=by
      unfold ey;rw[if_neg ?_,if_pos (decide_eq_true (by simpa using ct))];intro h;simp only[JU,Kc,JV] at h
      cases aZ:aH.flatMap Atom.bytes with
      | nil=>rw[aZ] at h;simp at h
      | cons d r=>
       rw[aZ] at h;exact(H d (by rw[aZ];rfl)).1 (by simpa using h.1)
     exact FQ
theorem uq(aH:List Atom)(f n:Nat)(acc:List Tok)(h:Atom.chain aH)(aA:(aH.flatMap Atom.bytes).length<f)(hn:acc.length+Atom.count aH<=4000):(eU f n (aH.flatMap Atom.bytes) acc).2.2=0:=by
 rw[iQ aH f n acc h aA hn]
end Go.Proofs.YtnigabjngpnbiaaGreat
