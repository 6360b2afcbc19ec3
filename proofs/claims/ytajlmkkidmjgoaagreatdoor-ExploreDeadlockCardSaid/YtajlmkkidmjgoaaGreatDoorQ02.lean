/- Part 2 of the proof. No condition of its own. -/
import Derived.Test.YtajlmkkidmjgoaaGreatDoorQ01
namespace Go.Proofs.YtajlmkkidmjgoaaGreatDoor
open Go.RowKit Go.Proofs.Tryz
set_option maxRecDepth 1000000
set_option maxHeartbeats 25600000
set_option linter.unusedVariables false
def ob(c:UInt8):Bool:=c == 32 || c == 9 || c == 10 || c == 13
def bO(c:UInt8):Bool:=(decide (97<=c.toNat) && decide (c.toNat<=122)) || (decide (65<=c.toNat) && decide (c.toNat<=90)) || decide (c.toNat=95)
def bp(c:UInt8):Bool:=decide (48<=c.toNat) && decide (c.toNat<=57)
def bY(c:UInt8):Bool:=bO c || bp c
def rW:List (List UInt8):=[[118,97,114],[109,117,116,101,120],[114,109,117,116,101,120],[102,117,110,99],[108,111,99,107],[117,110,108,111,99,107],[103,111],[105,102],[101,108,115,101],[119,104,105,108,101],[114,101,116,117,114,110]]
def c5(s:List UInt8):Bool:=decide (s∈rW)
def br(s:List UInt8):Bool:=(match s with|[]=>false|c::l=>bO c && l.all bY) && decide (s.length<=16) && !c5 s
def eT:List (List UInt8):=[[60,61],[62,61],[61,61],[33,61],[38,38],[124,124]]
def ey:List (List UInt8):=[[40],[41],[123],[125],[91],[93],[44],[59],[61],[43],[45],[42],[47],[37],[60],[62],[33]]
def eI(l:List UInt8):Nat:=if decide (l.take 2∈eT) && decide (2<=l.length) then 2 else if decide (l.take 1∈ey) then 1 else 0
def aQ:Bool->List UInt8->List UInt8
 | _,[]=>[]
 | true,c::l=>if c=10 then aQ false l else aQ true l
 | false,c::l=>if ob c then aQ false l else if c=47/\l.head?=some 47 then aQ true l else c::l
theorem jf:∀(b:Bool) (l:List UInt8),(aQ b l).length<=l.length
 | _,[]=>by unfold aQ;simp
 | true,c::l=>by
  unfold aQ;split
  .have:=jf false l;simp;omega
  .have:=jf true l;simp;omega
 | false,c::l=>by
  unfold aQ;split
  .have:=jf false l;simp;omega
  .split
   .have:=jf true l;simp;omega
   .simp
def h4:Int->List UInt8->Int
 | n,[]=>n
 | n,c::l=>if n > (9223372036854775807 - ((c.toNat:Int) - 48)) / 10 then -1 else h4 (10*n+((c.toNat:Int) - 48)) l
def nQ(l:List UInt8):Int:=h4 0 l
structure Tok where
 kind:Int
 text:List UInt8
 num:Int
 pos:Int
def eY:Nat->Nat->List UInt8->List Tok->List Tok×Int×Int
 | 0,_,_,_=>([],0,1)
 | f+1,n,l,acc=>
  match aQ false l with
  | []=>(acc++[⟨5,[],0,n⟩],n,0)
  | c::r=>
   let at_:Int:=(n:Int) - (r.length+1)
   if bO c then
    let t:=(c::r).takeWhile bY
    if !c5 t && decide (16<t.length) then ([],at_,3)
    else if acc.length=4000 then ([],at_,3)
    else eY f n ((c::r).dropWhile bY) (acc++[⟨if c5 t then 3 else 1,t,0,at_⟩])
   else if bp c then
    let t:=(c::r).takeWhile bp
    if nQ t<0 then ([],at_,2)
    else if acc.length=4000 then ([],at_,3)
    else eY f n ((c::r).dropWhile bp) (acc++[⟨2,t,nQ t,at_⟩])
   else if eI (c::r)=0 then ([],at_,1)
   else if acc.length=4000 then ([],at_,3)
   else eY f n ((c::r).drop (eI (c::r))) (acc++[⟨4,(c::r).take (eI (c::r)),0,at_⟩])
def fq(l:List UInt8):List Tok×Int×Int:=if 262144<l.length then ([],262144,3) else eY (l.length+1) l.length l []
inductive Atom where
 | ws (c:UInt8)
 | word (s:List UInt8)
 | num (s:List UInt8)
 | sg (s:List UInt8)
def Atom.bytes:Atom->List UInt8
 | .ws c=>[c]
 | .word s=>s
 | .num s=>s
 | .sg s=>s
def Atom.fK:Atom->Prop
 | .ws c=>ob c=true
 | .word s=>(∃c l,s=c::l/\bO c=true/\l.all bY=true)/\(c5 s=true\/s.length<=16)
 | .num s=>(∃c l,s=c::l)/\s.all bp=true/\0<=nQ s
 | .sg s=>s∈eT\/s∈ey
def Atom.jY:Atom->Bool
 | .word _=>true
 | .num _=>true
 | _=>false
def Atom.head:Atom->Option UInt8
 | .ws c=>some c
 | .word s=>s.head?
 | .num s=>s.head?
 | .sg s=>s.head?
def Atom.fits(a b:Atom):Prop:=
 (a.jY=true->b.jY=false)/\∀s,a=.sg s->s∈ey->∀c,b.head=some c->(s++[c])∉eT/\¬(s=[47]/\c=47)
def Atom.count:List Atom->Nat
 | []=>0
 | .ws _::l=>Atom.count l
 | _::l=>Atom.count l+1
def Atom.chain:List Atom->Prop
 | []=>True
 | [a]=>a.fK
 | a::b::l=>a.fK/\a.fits b/\Atom.chain (b::l)
theorem vu(c:UInt8)(h:ob c=true):bO c=false/\bp c=false:=by
 simp only[ob,Bool.or_eq_true,beq_iff_eq] at h;rcases h with((rfl|rfl)|rfl)|rfl<;>decide
theorem uq(c:UInt8)(h:bO c=true):ob c=false/\c≠47:=by
 refine⟨?_,?_⟩
 .cases hw:ob c with
  | false=>rfl
  | true=>have:=(vu c hw).1;rw[h] at this;cases this
 .rintro rfl;revert h;decide
theorem wY(c:UInt8)(h:bp c=true):ob c=false/\c≠47/\bO c=false:=by
 refine⟨?_,?_,?_⟩
 .cases hw:ob c with
  | false=>rfl
  | true=>have:=(vu c hw).2;rw[h] at this;cases this
 .rintro rfl;revert h;decide
 .simp only[bp,Il,IG] at h;simp only[bO,Bool.or_eq_false_iff,Bool.and_eq_false_iff,decide_eq_false_iff_not];omega
theorem gG{α:Type}{p:α->Bool}{s r:List α}(h:s.all p=true)(aY:∀c,r.head?=some c->p c=false):(s++r).takeWhile p=s/\(s++r).dropWhile p=r:=by
 induction s with
 | nil=>
  cases r with
  | nil=>simp
  | cons c r=>have:=aY c rfl;simp[this]
 | cons a s aa=>
  simp only[List.all_cons,Il] at h;have:=aa h.2;simp[h.1,this]
def qN(n:Nat):List Atom->List Tok
 | []=>[⟨5,[],0,n⟩]
 | .ws _::l=>qN n l
 | .word s::l=>⟨if c5 s then 3 else 1,s,0,(n:Int) - ((s++l.flatMap Atom.bytes).length:Int)⟩::qN n l
 | .num s::l=>⟨2,s,nQ s,(n:Int) - ((s++l.flatMap Atom.bytes).length:Int)⟩::qN n l
 | .sg s::l=>⟨4,s,0,(n:Int) - ((s++l.flatMap Atom.bytes).length:Int)⟩::qN n l
theorem oG{acc L:List Tok}{k m q p:Int}{t u:List UInt8}{R:List Tok×Int×Int}{n:Int}(h:R=((acc++[⟨k,t,m,p⟩])++L,n,0))(hu:t=u)(hp:p=q):R=(acc++⟨k,u,m,q⟩::L,n,0):=by
 subst hu hp;rw[h,Io];rfl
theorem iX:∀(aJ:List Atom) (f n:Nat) (acc:List Tok),Atom.chain aJ->(aJ.flatMap Atom.bytes).length<f->acc.length+Atom.count aJ<=4000->eY f n (aJ.flatMap Atom.bytes) acc=(acc++qN n aJ,(n:Int),0)
 | [],f,n,acc,_,aA,_=>by
  cases f with
  | zero=>omega
  | succ f=>simp[eY,aQ,qN]
 | a::aJ,f,n,acc,hc,aA,hn=>by
  have aM:a.fK:=by cases aJ<;>simp only[Atom.chain] at hc<;>first|exact hc|exact hc.1
  have o:Atom.chain aJ:=by
   cases aJ with
   | nil=>trivial
   | cons b l=>exact hc.2.2
  have i:∀b l,aJ=b::l->a.fits b:=λb l h=>by subst h;exact hc.2.1
  have q:∀c,(aJ.flatMap Atom.bytes).head?=some c->∃b l,aJ=b::l/\b.head=some c/\b.fK:=by
   intro c h
   cases aJ with
   | nil=>simp at h
   | cons b l=>
    have j:b.fK:=by cases l<;>simp only[Atom.chain] at o<;>first|exact o|exact o.1
    refine⟨b,l,rfl,?_,j⟩
    cases b with
    | ws d=>simpa[Atom.bytes,Atom.head] using h
    | word s=>
     obtain⟨⟨d,m,rfl,_⟩,_⟩:=j
     simpa[Atom.bytes,Atom.head] using h
    | num s=>
     obtain⟨⟨d,m,rfl⟩,_⟩:=j
     simpa[Atom.bytes,Atom.head] using h
    | sg s=>
     have:∃d m,s=d::m:=by
      cases s with
      | nil=>rcases j with h|h<;>simp[eT,ey] at h
      | cons d m=>exact⟨d,m,rfl⟩
     obtain⟨d,m,rfl⟩:=this;simpa[Atom.bytes,Atom.head] using h
  have v:∀b:Atom,b.jY=false->b.fK->∀c,b.head=some c->bY c=false:=by
   intro b O j c hc
   cases b with
   | ws d=>
    simp only[Atom.head,IE] at hc;subst hc;have:=vu d j
    simp[bY,this.1,this.2]
   | word s=>simp[Atom.jY] at O
   | num s=>simp[Atom.jY] at O
   | sg s=>
    have key:∀s∈eT++ey,∀c,s.head?=some c->bY c=false:=by decide
    refine key s ?_ c hc;rcases j with h|h<;>simp[h]
  cases f with
  | zero=>omega
  | succ f=>
   have hl:((a::aJ).flatMap Atom.bytes).length=a.bytes.length+(aJ.flatMap Atom.bytes).length:=by rw[Iv,Hz]
   cases a with
   | ws c=>
    have hw:ob c=true:=aM;have hlen:(aJ.flatMap Atom.bytes).length<f+1:=ad;have aa:=iX aJ (f+1) n acc o hlen (by simpa[Atom.count] using hn);have hs:aQ false (c::aJ.flatMap Atom.bytes)=aQ false (aJ.flatMap Atom.bytes):=by
     rw[aQ,if_pos hw]
    simp only[Iv,Atom.bytes,List.singleton_append];unfold eY at aa ⊢;rw[hs]
    exact aa
   | word s=>
    obtain⟨⟨c,l,rfl,bd,S⟩,bQ⟩:=aM;have cM:=uq c bd;have u:∀d,(aJ.flatMap Atom.bytes).head?=some d->bY d=false:=λd hd=>by
     obtain⟨b,l,has,O,j⟩:=q d hd;exact v b ((i b l has).1 rfl) j d O
    have e:=gG (p:=bY) (s:=c::l) (r:=aJ.flatMap Atom.bytes) (by simp[S,bY,bd]) u;simp only[Ip] at e;have g:aQ false (c::(l++aJ.flatMap Atom.bytes))=c::(l++aJ.flatMap Atom.bytes):=by
     rw[aQ,if_neg (by simp[cM.1]),if_neg (by simp[cM.2])]
    simp only[Atom.count] at hn;have aa:=λt=>iX aJ f n (acc++[t]) o (by simp only[Atom.bytes,Im] at hl;omega) (by simp;omega);simp only[Iv,Atom.bytes,Ip];unfold eY;simp only[g,bd,if_true,e.1,e.2];rw[if_neg ?_,if_neg ad]
    .exact oG (aa _) rfl (by simp)
    .rcases bQ with h|h
     .simp[h]
     .have ap:¬16<(c::l).length:=ad
      simp only[ap,decide_false,Bool.and_false,II,not_false_eq_true]
   | num s=>
    obtain⟨⟨c,l,rfl⟩,hd,bC⟩:=aM;simp only[List.all_cons,Il] at hd;have cM:=wY c hd.1;have u:∀d,(aJ.flatMap Atom.bytes).head?=some d->bp d=false:=λd hd=>by
     obtain⟨b,l,has,O,j⟩:=q d hd;have:=v b ((i b l has).1 rfl) j d O;simp only[bY,Bool.or_eq_false_iff] at this;exact this.2
    have e:=gG (p:=bp) (s:=c::l) (r:=aJ.flatMap Atom.bytes) (by simp[hd]) u;simp only[Ip] at e;have g:aQ false (c::(l++aJ.flatMap Atom.bytes))=c::(l++aJ.flatMap Atom.bytes):=by
     rw[aQ,if_neg (by simp[cM.1]),if_neg (by simp[cM.2.1])]
    simp only[Atom.count] at hn;have aa:=λt=>iX aJ f n (acc++[t]) o (by simp only[Atom.bytes,Im] at hl;omega) (by simp;omega);simp only[Iv,Atom.bytes,Ip];unfold eY;simp only[g,cM.2.2,II,if_false,hd.1,if_true,e.1,e.2];rw[if_neg ad,if_neg ad]
    exact oG (aa _) rfl (by simp)
   | sg s=>
    simp only[Atom.count] at hn;have aa:=λt=>iX aJ f n (acc++[t]) o (by
     have:1<=s.length:=by
      cases s with
      | nil=>rcases aM with h|h<;>simp[eT,ey] at h
      | cons d m=>simp
     simp only[Atom.bytes] at hl;omega) (by simp;omega)
    have J:∀s∈eT,∃c d,s=[c,d]/\ob c=false/\c≠47/\bO c=false/\bp c=false:=by
     intro s hs;simp only[eT,Iq,List.not_mem_nil,or_false] at hs;rcases hs with rfl|rfl|rfl|rfl|rfl|rfl<;>exact⟨_,_,rfl,by decide,by decide,by decide,by decide⟩
    have ac:∀s∈ey,∃c,s=[c]/\ob c=false/\bO c=false/\bp c=false:=by
     intro s hs;simp only[ey,Iq,List.not_mem_nil,or_false] at hs;rcases hs with rfl|rfl|rfl|rfl|rfl|rfl|rfl|rfl|rfl|rfl|rfl|rfl|rfl|rfl|rfl|rfl|rfl<;>exact⟨_,rfl,by decide,by decide,by decide⟩
    by_cases bz:s∈eT
    .obtain⟨c,d,rfl,cm,bZ,cC,b5⟩:=J s bz;have g:aQ false (c::d::aJ.flatMap Atom.bytes)=c::d::aJ.flatMap Atom.bytes:=by
      rw[aQ,if_neg (by simp[cm]),if_neg (by simp[bZ])]
     have k:eI (c::d::aJ.flatMap Atom.bytes)=2:=by simp[eI,bz]
     exact D0
    .have b6:s∈ey:=aM.resolve_left bz;obtain⟨c,rfl,cm,cC,b5⟩:=ac s b6;have bb:∀d,(aJ.flatMap Atom.bytes).head?=some d->[c,d]∉eT/\¬(c=47/\d=47):=λd hd=>by
      obtain⟨b,l,has,O,_⟩:=q d hd;have:=(i b l has).2 [c] rfl b6 d O;simpa using this
     have g:aQ false (c::aJ.flatMap Atom.bytes)=c::aJ.flatMap Atom.bytes:=by
      rw[aQ,if_neg (by simp[cm]),if_neg ?_];rintro⟨e1,e2⟩;exact(bb 47 e2).2 ⟨e1,rfl⟩
     have k:eI (c::aJ.flatMap Atom.bytes)=1:=by
      unfold eI;rw[if_neg ?_,if_pos (decide_eq_true (by simpa using b6))];intro h;simp only[Il,IG,Im] at h
      cases aY:aJ.flatMap Atom.bytes with
      | nil=>rw[aY] at h;simp at h
      | cons d r=>
       rw[aY] at h;exact(bb d (by rw[aY];rfl)).1 (by simpa using h.1)
     exact D0
theorem ur(aJ:List Atom)(f n:Nat)(acc:List Tok)(h:Atom.chain aJ)(aA:(aJ.flatMap Atom.bytes).length<f)(hn:acc.length+Atom.count aJ<=4000):(eY f n (aJ.flatMap Atom.bytes) acc).2.2=0:=by
 rw[iX aJ f n acc h aA hn]
def iN(n:Nat):List UInt8:=if n<10 then [UInt8.ofNat (48+n)] else iN (n / 10)++[UInt8.ofNat (48+n % 10)]
 termination_by n
theorem lZ(d:Nat)(h:d<10):(UInt8.ofNat (48+d)).toNat=48+d:=by simp;omega
theorem sd(n:Nat):(iN n).all bp=true/\∃c l,iN n=c::l:=by
 induction n using Nat.strongRecOn with
 | _ n aa=>
  rw[iN];split
  .rename_i h;refine⟨?_,_,_,rfl⟩;simp only[List.all_cons,List.all_nil,Bool.and_true,bp,lZ n h,Il,IG];omega
  .obtain⟨ac,c,l,J⟩:=aa (n / 10) ad;refine⟨?_,c,l++[UInt8.ofNat (48+n % 10)],by rw[J];rfl⟩;simp only[List.all_append,ac,List.all_cons,List.all_nil,Bool.and_true,Bool.true_and,bp,lZ (n % 10) ad,Il,IG];omega
theorem qy:∀(ar dc:List UInt8) (n:Int),0<=n->ar.all bp=true->h4 n (ar++dc)=if h4 n ar<0 then -1 else h4 (h4 n ar) dc
 | [],dc,n,hn,_=>by
  have h0:h4 n []=n:=rfl
  rw[IC,h0,if_neg ad]
 | c::ar,dc,n,hn,h=>by
  simp only[List.all_cons,Il] at h;have hd:48<=c.toNat:=by have:=h.1;simp only[bp,Il,IG] at this;exact this.1
  simp only[Ip,h4];split
  .simp
  .exact qy ar dc _ ad h.2
theorem xn(n:Nat)(h:n<=9223372036854775807):nQ (iN n)=n:=by
 unfold nQ
 induction n using Nat.strongRecOn with
 | _ n aa=>
  rw[iN];split
  .rename_i h;simp only[h4,lZ n h];rw[if_neg ad];omega
  .have i:=aa (n / 10) ad ad;rw[qy _ _ _ ad (sd _).1,i,if_neg ad];simp only[h4,lZ (n % 10) ad];rw[if_neg ad];omega
def Atom.last(aJ:List Atom):Option Atom:=aJ.getLast?
theorem dV:∀(aJ f:List Atom),Atom.chain aJ->Atom.chain f->(∀a b,aJ.getLast?=some a->f.head?=some b->a.fits b)->Atom.chain (aJ++f)
 | [],f,_,O,_=>O
 | [a],[],I,_,_=>I
 | [a],b::f,I,O,aA=>⟨I,aA a b rfl rfl,O⟩
 | a::r::aJ,f,I,O,aA=>by
  have aa:=dV (r::aJ) f I.2.2 O (λx y hx a4=>aA x y (by rw[List.getLast?_cons_cons];exact hx) a4);exact⟨I.1,I.2.1,aa⟩
theorem count_append:∀(aJ f:List Atom),Atom.count (aJ++f)=Atom.count aJ+Atom.count f
 | [],f=>by simp[Atom.count]
 | a::aJ,f=>by
  have aa:=count_append aJ f;cases a<;>simp only[Ip,Atom.count,aa]<;>omega
def aR(aJ:List Atom):List UInt8:=aJ.flatMap Atom.bytes
theorem a1(aJ f:List Atom):aR (aJ++f)=aR aJ++aR f:=List.flatMap_append
theorem aY(a:Atom)(f:List Atom):aR (a::f)=a.bytes++aR f:=Iv
theorem oc(c:UInt8)(b:Atom):(Atom.ws c).fits b:=⟨λh=>by simp[Atom.jY] at h,λs h=>by cases h⟩
theorem n3(a:Atom)(c:UInt8)(h:ob c=true):a.fits (.ws c):=by
 refine⟨λ_=>rfl,λs _ _ d hd=>?_⟩;simp only[Atom.head,IE] at hd;subst hd;have key:∀s∈ey,∀d:UInt8,(d=32\/d=9\/d=10\/d=13)->(s++[d])∉eT/\¬(s=[47]/\d=47):=by
  intro s hs d hd;rcases hd with rfl|rfl|rfl|rfl<;>revert s<;>decide
 refine key s (by assumption) c ?_;simp only[ob,Bool.or_eq_true,beq_iff_eq] at h;rcases h with((h|h)|h)|h<;>simp[h]
theorem vR(a b:Atom)(I:a.jY=true)(O:b.jY=false):a.fits b:=⟨λ_=>O,λs h=>by subst h;simp[Atom.jY] at I⟩
def rI(a:Atom):Prop:=a.jY=true/\a.fK\/a=.sg [45]\/a=.sg [33]\/a=.sg [40]
def Eh(a:Atom):Prop:=a.jY=true\/a=.sg [41]\/a=.sg [93]
theorem CS(a:Atom)(h:a.jY=true)(aM:a.fK)(c:UInt8)(hc:a.head=some c):bY c=true:=by
 cases a with
 | ws _=>simp[Atom.jY] at h
 | sg _=>simp[Atom.jY] at h
 | word s=>
  obtain⟨⟨d,l,rfl,ac,_⟩,_⟩:=aM;simp only[Atom.head,List.head?_cons,IE] at hc;subst hc
  simp[bY,ac]
 | num s=>
  obtain⟨⟨d,l,rfl⟩,ac,_⟩:=aM;simp only[Atom.head,List.head?_cons,IE] at hc;subst hc;simp only[List.all_cons,Il] at ac;simp[bY,ac.1]
theorem m2(s:List UInt8)(hs:s=[45]\/s=[33]\/s=[40]\/s=[91])(b:Atom)(O:rI b):(Atom.sg s).fits b:=by
 refine⟨λh=>by simp[Atom.jY] at h,λt ht _ c hc=>?_⟩;injection ht with ht;subst ht;have Z:bY c=true\/c=45\/c=33\/c=40:=by
  rcases O with⟨ac,J⟩|rfl|rfl|rfl
  .exact .inl (CS b ac J c hc)
  all_goals simp[Atom.head] at hc;subst hc;simp
 have aZ:c≠61/\c≠38/\c≠124/\c≠47:=by
  rcases Z with h|rfl|rfl|rfl
  .refine⟨?_,?_,?_,?_⟩<;>(rintro rfl;revert h;decide)
  all_goals decide
 rcases hs with rfl|rfl|rfl|rfl<;>simp[eT,aZ]
theorem nZ(a:Atom)(I:Eh a)(s:List UInt8)(hs:s=[41]\/s=[93]\/s=[59]\/s=[44]):a.fits (.sg s):=by
 rcases I with h|rfl|rfl
 .exact vR _ _ h rfl
 all_goals
  refine⟨λh=>by simp[Atom.jY] at h,λt ht _ c hc=>?_⟩;injection ht with ht;subst ht;rcases hs with rfl|rfl|rfl|rfl<;>(simp[Atom.head] at hc;subst hc;decide)
end Go.Proofs.YtajlmkkidmjgoaaGreatDoor
