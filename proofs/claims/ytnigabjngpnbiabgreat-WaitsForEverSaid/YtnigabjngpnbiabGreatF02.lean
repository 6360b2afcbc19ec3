/- Part 2 of the proof. No condition of its own. -/
import Derived.Test.YtnigabjngpnbiabGreatF01
namespace Go.Proofs.YtnigabjngpnbiabGreat
open Go.RowKit Go.Proofs.Tryz
set_option maxRecDepth 1000000
set_option maxHeartbeats 25600000
set_option linter.unusedVariables false
def pj(c:UInt8):Bool:=c == 32 || c == 9 || c == 10 || c == 13
def bX(c:UInt8):Bool:=(decide (97<=c.toNat) && decide (c.toNat<=122)) || (decide (65<=c.toNat) && decide (c.toNat<=90)) || decide (c.toNat=95)
def bC(c:UInt8):Bool:=decide (48<=c.toNat) && decide (c.toNat<=57)
def ck(c:UInt8):Bool:=bX c || bC c
def rv:List (List UInt8):=[[118,97,114],[109,117,116,101,120],[114,109,117,116,101,120],[102,117,110,99],[108,111,99,107],[117,110,108,111,99,107],[103,111],[105,102],[101,108,115,101],[119,104,105,108,101],[114,101,116,117,114,110]]
def cz(s:List UInt8):Bool:=decide (s∈rv)
def bB(s:List UInt8):Bool:=(match s with|[]=>false|c::l=>bX c && l.all ck) && decide (s.length<=16) && !cz s
def fo:List (List UInt8):=[[60,61],[62,61],[61,61],[33,61],[38,38],[124,124]]
def eC:List (List UInt8):=[[40],[41],[123],[125],[91],[93],[44],[59],[61],[43],[45],[42],[47],[37],[60],[62],[33]]
def fm(l:List UInt8):Nat:=if decide (l.take 2∈fo) && decide (2<=l.length) then 2 else if decide (l.take 1∈eC) then 1 else 0
def aT:Bool->List UInt8->List UInt8
 | _,[]=>[]
 | true,c::l=>if c=10 then aT false l else aT true l
 | false,c::l=>if pj c then aT false l else if c=47/\l.head?=some 47 then aT true l else c::l
theorem j1:∀(b:Bool) (l:List UInt8),(aT b l).length<=l.length
 | _,[]=>by unfold aT;simp
 | true,c::l=>by
  unfold aT;split
  .have:=j1 false l;simp;omega
  .have:=j1 true l;simp;omega
 | false,c::l=>by
  unfold aT;split
  .have:=j1 false l;simp;omega
  .split
   .have:=j1 true l;simp;omega
   .simp
def iY:Int->List UInt8->Int
 | n,[]=>n
 | n,c::l=>if n > (9223372036854775807 - ((c.toNat:Int) - 48)) / 10 then -1 else iY (10*n+((c.toNat:Int) - 48)) l
def nZ(l:List UInt8):Int:=iY 0 l
structure Tok where
 kind:Int
 text:List UInt8
 num:Int
 pos:Int
def fI:Nat->Nat->List UInt8->List Tok->List Tok×Int×Int
 | 0,_,_,_=>([],0,1)
 | f+1,n,l,acc=>
  match aT false l with
  | []=>(acc++[⟨5,[],0,n⟩],n,0)
  | c::r=>
   let at_:Int:=(n:Int) - (r.length+1)
   if bX c then
    let t:=(c::r).takeWhile ck
    if !cz t && decide (16<t.length) then ([],at_,3)
    else if acc.length=4000 then ([],at_,3)
    else fI f n ((c::r).dropWhile ck) (acc++[⟨if cz t then 3 else 1,t,0,at_⟩])
   else if bC c then
    let t:=(c::r).takeWhile bC
    if nZ t<0 then ([],at_,2)
    else if acc.length=4000 then ([],at_,3)
    else fI f n ((c::r).dropWhile bC) (acc++[⟨2,t,nZ t,at_⟩])
   else if fm (c::r)=0 then ([],at_,1)
   else if acc.length=4000 then ([],at_,3)
   else fI f n ((c::r).drop (fm (c::r))) (acc++[⟨4,(c::r).take (fm (c::r)),0,at_⟩])
def dU(l:List UInt8):List Tok×Int×Int:=if 262144<l.length then ([],262144,3) else fI (l.length+1) l.length l []
inductive Atom where
 | ws (c:UInt8)
 | word (s:List UInt8)
 | num (s:List UInt8)
 | sg (s:List UInt8)
def Atom.bytes:Atom->List UInt8
 | .ws c=>[c]
 | .word s=>s
 | .num s=>s
 | .sg s=>s
def Atom.ga:Atom->Prop
 | .ws c=>pj c=true
 | .word s=>(∃c l,s=c::l/\bX c=true/\l.all ck=true)/\(cz s=true\/s.length<=16)
 | .num s=>(∃c l,s=c::l)/\s.all bC=true/\0<=nZ s
 | .sg s=>s∈fo\/s∈eC
def Atom.jV:Atom->Bool
 | .word _=>true
 | .num _=>true
 | _=>false
def Atom.head:Atom->Option UInt8
 | .ws c=>some c
 | .word s=>s.head?
 | .num s=>s.head?
 | .sg s=>s.head?
def Atom.fits(a b:Atom):Prop:=
 (a.jV=true->b.jV=false)/\∀s,a=.sg s->s∈eC->∀c,b.head=some c->(s++[c])∉fo/\¬(s=[47]/\c=47)
def Atom.count:List Atom->Nat
 | []=>0
 | .ws _::l=>Atom.count l
 | _::l=>Atom.count l+1
def Atom.chain:List Atom->Prop
 | []=>True
 | [a]=>a.ga
 | a::b::l=>a.ga/\a.fits b/\Atom.chain (b::l)
theorem yc(c:UInt8)(h:pj c=true):bX c=false/\bC c=false:=by
 simp only[pj,Bool.or_eq_true,beq_iff_eq] at h;rcases h with((rfl|rfl)|rfl)|rfl<;>decide
theorem xh(c:UInt8)(h:bX c=true):pj c=false/\c≠47:=by
 refine⟨?_,?_⟩
 .cases hw:pj c with
  | false=>rfl
  | true=>have:=(yc c hw).1;rw[h] at this;cases this
 .rintro rfl;revert h;decide
theorem zz(c:UInt8)(h:bC c=true):pj c=false/\c≠47/\bX c=false:=by
 refine⟨?_,?_,?_⟩
 .cases hw:pj c with
  | false=>rfl
  | true=>have:=(yc c hw).2;rw[h] at this;cases this
 .rintro rfl;revert h;decide
 .simp only[bC,Ng,Ny] at h;simp only[bX,Bool.or_eq_false_iff,Bool.and_eq_false_iff,decide_eq_false_iff_not];omega
theorem hr{α:Type}{p:α->Bool}{s r:List α}(h:s.all p=true)(ba:∀c,r.head?=some c->p c=false):(s++r).takeWhile p=s/\(s++r).dropWhile p=r:=by
 induction s with
 | nil=>
  cases r with
  | nil=>simp
  | cons c r=>have:=ba c rfl;simp[this]
 | cons a s aq=>
  simp only[List.all_cons,Ng] at h;have:=aq h.2;simp[h.1,this]
def l4(n:Nat):List Atom->List Tok
 | []=>[⟨5,[],0,n⟩]
 | .ws _::l=>l4 n l
 | .word s::l=>⟨if cz s then 3 else 1,s,0,(n:Int) - ((s++l.flatMap Atom.bytes).length:Int)⟩::l4 n l
 | .num s::l=>⟨2,s,nZ s,(n:Int) - ((s++l.flatMap Atom.bytes).length:Int)⟩::l4 n l
 | .sg s::l=>⟨4,s,0,(n:Int) - ((s++l.flatMap Atom.bytes).length:Int)⟩::l4 n l
theorem qh{acc L:List Tok}{k m q p:Int}{t u:List UInt8}{R:List Tok×Int×Int}{n:Int}(h:R=((acc++[⟨k,t,m,p⟩])++L,n,0))(hu:t=u)(hp:p=q):R=(acc++⟨k,u,m,q⟩::L,n,0):=by
 subst hu hp;rw[h,Ni];rfl
theorem iD:∀(aY:List Atom) (f n:Nat) (acc:List Tok),Atom.chain aY->(aY.flatMap Atom.bytes).length<f->acc.length+Atom.count aY<=4000->fI f n (aY.flatMap Atom.bytes) acc=(acc++l4 n aY,(n:Int),0)
 | [],f,n,acc,_,J,_=>by
  cases f with
  | zero=>omega
  | succ f=>simp[fI,aT,l4]
 | a::aY,f,n,acc,hc,J,hn=>by
  have aR:a.ga:=by cases aY<;>simp only[Atom.chain] at hc<;>first|exact hc|exact hc.1
  have o:Atom.chain aY:=by
   cases aY with
   | nil=>trivial
   | cons b l=>exact hc.2.2
  have i:∀b l,aY=b::l->a.fits b:=λb l h=>by subst h;exact hc.2.1
  have q:∀c,(aY.flatMap Atom.bytes).head?=some c->∃b l,aY=b::l/\b.head=some c/\b.ga:=by
   intro c h
   cases aY with
   | nil=>simp at h
   | cons b l=>
    have j:b.ga:=by cases l<;>simp only[Atom.chain] at o<;>first|exact o|exact o.1
    refine⟨b,l,rfl,?_,j⟩
    cases b with
    | ws d=>simpa[Atom.bytes,Atom.head] using h
    | word s=>
     obtain⟨⟨d,m,rfl,_⟩,_⟩:=j
     simpa[Atom.bytes,Atom.head] using h
    | num s=>
     obtain⟨⟨d,m,rfl⟩,_⟩:=j
     simpa[Atom.bytes,Atom.head] using h
    | sg s=>
     have:∃d m,s=d::m:=by
      cases s with
      | nil=>rcases j with h|h<;>simp[fo,eC] at h
      | cons d m=>exact⟨d,m,rfl⟩
     obtain⟨d,m,rfl⟩:=this;simpa[Atom.bytes,Atom.head] using h
  have v:∀b:Atom,b.jV=false->b.ga->∀c,b.head=some c->ck c=false:=by
   intro b O j c hc
   cases b with
   | ws d=>
    simp only[Atom.head,Nw] at hc;subst hc;have:=yc d j
    simp[ck,this.1,this.2]
   | word s=>simp[Atom.jV] at O
   | num s=>simp[Atom.jV] at O
   | sg s=>
    have key:∀s∈fo++eC,∀c,s.head?=some c->ck c=false:=by decide
    refine key s ?_ c hc;rcases j with h|h<;>simp[h]
  cases f with
  | zero=>omega
  | succ f=>
   have hl:((a::aY).flatMap Atom.bytes).length=a.bytes.length+(aY.flatMap Atom.bytes).length:=by rw[No,M3]
   cases a with
   | ws c=>
    have hw:pj c=true:=aR;have hlen:(aY.flatMap Atom.bytes).length<f+1:=ad;have aq:=iD aY (f+1) n acc o hlen (by simpa[Atom.count] using hn);have hs:aT false (c::aY.flatMap Atom.bytes)=aT false (aY.flatMap Atom.bytes):=by
     rw[aT,if_pos hw]
    simp only[No,Atom.bytes,List.singleton_append];unfold fI at aq ⊢;rw[hs]
    exact aq
   | word s=>
    obtain⟨⟨c,l,rfl,bu,z⟩,aj⟩:=aR;have c5:=xh c bu;have u:∀d,(aY.flatMap Atom.bytes).head?=some d->ck d=false:=λd hd=>by
     obtain⟨b,l,has,O,j⟩:=q d hd;exact v b ((i b l has).1 rfl) j d O
    have e:=hr (p:=ck) (s:=c::l) (r:=aY.flatMap Atom.bytes) (by simp[z,ck,bu]) u;simp only[Nj] at e;have g:aT false (c::(l++aY.flatMap Atom.bytes))=c::(l++aY.flatMap Atom.bytes):=by
     rw[aT,if_neg (by simp[c5.1]),if_neg (by simp[c5.2])]
    simp only[Atom.count] at hn;have aq:=λt=>iD aY f n (acc++[t]) o (by simp only[Atom.bytes,Nh] at hl;omega) (by simp;omega);simp only[No,Atom.bytes,Nj];unfold fI;simp only[g,bu,if_true,e.1,e.2];rw[if_neg ?_,if_neg ad]
    .exact qh (aq _) rfl (by simp)
    .rcases aj with h|h
     .simp[h]
     .have al:¬16<(c::l).length:=ad
      simp only[al,decide_false,Bool.and_false,Nz,not_false_eq_true]
   | num s=>
    obtain⟨⟨c,l,rfl⟩,hd,bK⟩:=aR;simp only[List.all_cons,Ng] at hd;have c5:=zz c hd.1;have u:∀d,(aY.flatMap Atom.bytes).head?=some d->bC d=false:=λd hd=>by
     obtain⟨b,l,has,O,j⟩:=q d hd;have:=v b ((i b l has).1 rfl) j d O;simp only[ck,Bool.or_eq_false_iff] at this;exact this.2
    have e:=hr (p:=bC) (s:=c::l) (r:=aY.flatMap Atom.bytes) (by simp[hd]) u;simp only[Nj] at e;have g:aT false (c::(l++aY.flatMap Atom.bytes))=c::(l++aY.flatMap Atom.bytes):=by
     rw[aT,if_neg (by simp[c5.1]),if_neg (by simp[c5.2.1])]
    simp only[Atom.count] at hn;have aq:=λt=>iD aY f n (acc++[t]) o (by simp only[Atom.bytes,Nh] at hl;omega) (by simp;omega);simp only[No,Atom.bytes,Nj];unfold fI;simp only[g,c5.2.2,Nz,if_false,hd.1,if_true,e.1,e.2];rw[if_neg ad,if_neg ad]
    exact qh (aq _) rfl (by simp)
   | sg s=>
    simp only[Atom.count] at hn;have aq:=λt=>iD aY f n (acc++[t]) o (by
     have:1<=s.length:=by
      cases s with
      | nil=>rcases aR with h|h<;>simp[fo,eC] at h
      | cons d m=>simp
     simp only[Atom.bytes] at hl;omega) (by simp;omega)
    have az:∀s∈fo,∃c d,s=[c,d]/\pj c=false/\c≠47/\bX c=false/\bC c=false:=by
     intro s hs;simp only[fo,Nk,List.not_mem_nil,or_false] at hs;rcases hs with rfl|rfl|rfl|rfl|rfl|rfl<;>exact⟨_,_,rfl,by decide,by decide,by decide,by decide⟩
    have ac:∀s∈eC,∃c,s=[c]/\pj c=false/\bX c=false/\bC c=false:=by
     intro s hs;simp only[eC,Nk,List.not_mem_nil,or_false] at hs;rcases hs with rfl|rfl|rfl|rfl|rfl|rfl|rfl|rfl|rfl|rfl|rfl|rfl|rfl|rfl|rfl|rfl|rfl<;>exact⟨_,rfl,by decide,by decide,by decide⟩
    by_cases bO:s∈fo
    .obtain⟨c,d,rfl,cw,bR,cS,H⟩:=az s bO;have g:aT false (c::d::aY.flatMap Atom.bytes)=c::d::aY.flatMap Atom.bytes:=by
      rw[aT,if_neg (by simp[cw]),if_neg (by simp[bR])]
     have k:fm (c::d::aY.flatMap Atom.bytes)=2:=by simp[fm,bO]
     exact Iq
    .have cn:s∈eC:=aR.resolve_left bO;obtain⟨c,rfl,cw,cS,H⟩:=ac s cn;have b8:∀d,(aY.flatMap Atom.bytes).head?=some d->[c,d]∉fo/\¬(c=47/\d=47):=λd hd=>by
      obtain⟨b,l,has,O,_⟩:=q d hd;have:=(i b l has).2 [c] rfl cn d O;simpa using this
     have g:aT false (c::aY.flatMap Atom.bytes)=c::aY.flatMap Atom.bytes:=by
      rw[aT,if_neg (by simp[cw]),if_neg ?_];rintro⟨e1,e2⟩;exact(b8 47 e2).2 ⟨e1,rfl⟩
     have k:fm (c::aY.flatMap Atom.bytes)=1:=by
      unfold fm;rw[if_neg ?_,if_pos (decide_eq_true (by simpa using cn))];intro h;simp only[Ng,Ny,Nh] at h
      cases ba:aY.flatMap Atom.bytes with
      | nil=>rw[ba] at h;simp at h
      | cons d r=>
       rw[ba] at h;exact(b8 d (by rw[ba];rfl)).1 (by simpa using h.1)
     exact Iq
theorem xi(aY:List Atom)(f n:Nat)(acc:List Tok)(h:Atom.chain aY)(J:(aY.flatMap Atom.bytes).length<f)(hn:acc.length+Atom.count aY<=4000):(fI f n (aY.flatMap Atom.bytes) acc).2.2=0:=by
 rw[iD aY f n acc h J hn]
def jL(n:Nat):List UInt8:=if n<10 then [UInt8.ofNat (48+n)] else jL (n / 10)++[UInt8.ofNat (48+n % 10)]
 termination_by n
theorem mT(d:Nat)(h:d<10):(UInt8.ofNat (48+d)).toNat=48+d:=by simp;omega
theorem uM(n:Nat):(jL n).all bC=true/\∃c l,jL n=c::l:=by
 induction n using Nat.strongRecOn with
 | _ n aq=>
  rw[jL];split
  .rename_i h;refine⟨?_,_,_,rfl⟩;simp only[List.all_cons,List.all_nil,Bool.and_true,bC,mT n h,Ng,Ny];omega
  .obtain⟨ac,c,l,az⟩:=aq (n / 10) ad;refine⟨?_,c,l++[UInt8.ofNat (48+n % 10)],by rw[az];rfl⟩;simp only[List.all_append,ac,List.all_cons,List.all_nil,Bool.and_true,Bool.true_and,bC,mT (n % 10) ad,Ng,Ny];omega
theorem sy:∀(ck dk:List UInt8) (n:Int),0<=n->ck.all bC=true->iY n (ck++dk)=if iY n ck<0 then -1 else iY (iY n ck) dk
 | [],dk,n,hn,_=>by
  have h0:iY n []=n:=rfl
  rw[Nu,h0,if_neg ad]
 | c::ck,dk,n,hn,h=>by
  simp only[List.all_cons,Ng] at h;have hd:48<=c.toNat:=by have:=h.1;simp only[bC,Ng,Ny] at this;exact this.1
  simp only[Nj,iY];split
  .simp
  .exact sy ck dk _ ad h.2
theorem zY(n:Nat)(h:n<=9223372036854775807):nZ (jL n)=n:=by
 unfold nZ
 induction n using Nat.strongRecOn with
 | _ n aq=>
  rw[jL];split
  .rename_i h;simp only[iY,mT n h];rw[if_neg ad];omega
  .have i:=aq (n / 10) ad ad;rw[sy _ _ _ ad (uM _).1,i,if_neg ad];simp only[iY,mT (n % 10) ad];rw[if_neg ad];omega
def Atom.last(aY:List Atom):Option Atom:=aY.getLast?
theorem ez:∀(aY f:List Atom),Atom.chain aY->Atom.chain f->(∀a b,aY.getLast?=some a->f.head?=some b->a.fits b)->Atom.chain (aY++f)
 | [],f,_,O,_=>O
 | [a],[],bg,_,_=>bg
 | [a],b::f,bg,O,J=>⟨bg,J a b rfl rfl,O⟩
 | a::r::aY,f,bg,O,J=>by
  have aq:=ez (r::aY) f bg.2.2 O (λx y hx bb=>J x y (by rw[List.getLast?_cons_cons];exact hx) bb);exact⟨bg.1,bg.2.1,aq⟩
theorem count_append:∀(aY f:List Atom),Atom.count (aY++f)=Atom.count aY+Atom.count f
 | [],f=>by simp[Atom.count]
 | a::aY,f=>by
  have aq:=count_append aY f;cases a<;>simp only[Nj,Atom.count,aq]<;>omega
def aV(aY:List Atom):List UInt8:=aY.flatMap Atom.bytes
theorem bh(aY f:List Atom):aV (aY++f)=aV aY++aV f:=List.flatMap_append
theorem a1(a:Atom)(f:List Atom):aV (a::f)=a.bytes++aV f:=No
theorem pO(c:UInt8)(b:Atom):(Atom.ws c).fits b:=⟨λh=>by simp[Atom.jV] at h,λs h=>by cases h⟩
theorem pA(a:Atom)(c:UInt8)(h:pj c=true):a.fits (.ws c):=by
 refine⟨λ_=>rfl,λs _ _ d hd=>?_⟩;simp only[Atom.head,Nw] at hd;subst hd;have key:∀s∈eC,∀d:UInt8,(d=32\/d=9\/d=10\/d=13)->(s++[d])∉fo/\¬(s=[47]/\d=47):=by
  intro s hs d hd;rcases hd with rfl|rfl|rfl|rfl<;>revert s<;>decide
 refine key s (by assumption) c ?_;simp only[pj,Bool.or_eq_true,beq_iff_eq] at h;rcases h with((h|h)|h)|h<;>simp[h]
theorem yz(a b:Atom)(bg:a.jV=true)(O:b.jV=false):a.fits b:=⟨λ_=>O,λs h=>by subst h;simp[Atom.jV] at bg⟩
def ue(a:Atom):Prop:=a.jV=true/\a.ga\/a=.sg [45]\/a=.sg [33]\/a=.sg [40]
def IC(a:Atom):Prop:=a.jV=true\/a=.sg [41]\/a=.sg [93]
theorem G4(a:Atom)(h:a.jV=true)(aR:a.ga)(c:UInt8)(hc:a.head=some c):ck c=true:=by
 cases a with
 | ws _=>simp[Atom.jV] at h
 | sg _=>simp[Atom.jV] at h
 | word s=>
  obtain⟨⟨d,l,rfl,ac,_⟩,_⟩:=aR;simp only[Atom.head,List.head?_cons,Nw] at hc;subst hc
  simp[ck,ac]
 | num s=>
  obtain⟨⟨d,l,rfl⟩,ac,_⟩:=aR;simp only[Atom.head,List.head?_cons,Nw] at hc;subst hc;simp only[List.all_cons,Ng] at ac;simp[ck,ac.1]
theorem oe(s:List UInt8)(hs:s=[45]\/s=[33]\/s=[40]\/s=[91])(b:Atom)(O:ue b):(Atom.sg s).fits b:=by
 refine⟨λh=>by simp[Atom.jV] at h,λt ht _ c hc=>?_⟩;injection ht with ht;subst ht;have Z:ck c=true\/c=45\/c=33\/c=40:=by
  rcases O with⟨ac,az⟩|rfl|rfl|rfl
  .exact .inl (G4 b ac az c hc)
  all_goals simp[Atom.head] at hc;subst hc;simp
 have bl:c≠61/\c≠38/\c≠124/\c≠47:=by
  rcases Z with h|rfl|rfl|rfl
  .refine⟨?_,?_,?_,?_⟩<;>(rintro rfl;revert h;decide)
  all_goals decide
 rcases hs with rfl|rfl|rfl|rfl<;>simp[fo,bl]
theorem py(a:Atom)(bg:IC a)(s:List UInt8)(hs:s=[41]\/s=[93]\/s=[59]\/s=[44]):a.fits (.sg s):=by
 rcases bg with h|rfl|rfl
 .exact yz _ _ h rfl
 all_goals
  refine⟨λh=>by simp[Atom.jV] at h,λt ht _ c hc=>?_⟩;injection ht with ht;subst ht;rcases hs with rfl|rfl|rfl|rfl<;>(simp[Atom.head] at hc;subst hc;decide)
end Go.Proofs.YtnigabjngpnbiabGreat
