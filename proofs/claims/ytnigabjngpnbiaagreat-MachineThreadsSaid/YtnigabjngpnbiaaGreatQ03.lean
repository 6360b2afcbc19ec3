/- Part 3 of the proof. No condition of its own. -/
import Derived.Test.YtnigabjngpnbiaaGreatQ02
namespace Go.Proofs.YtnigabjngpnbiaaGreat
open Go.RowKit Go.Proofs.Tryz
set_option maxRecDepth 1000000
set_option maxHeartbeats 25600000
set_option linter.unusedVariables false
def iH(n:Nat):List UInt8:=if n<10 then [UInt8.ofNat (48+n)] else iH (n / 10)++[UInt8.ofNat (48+n % 10)]
 termination_by n
theorem lB(d:Nat)(h:d<10):(UInt8.ofNat (48+d)).toNat=48+d:=by simp;omega
theorem r7(n:Nat):(iH n).all bq=true/\∃c l,iH n=c::l:=by
 induction n using Nat.strongRecOn with
 | _ n ab=>
  rw[iH];split
  .rename_i h;refine⟨?_,_,_,rfl⟩;simp only[List.all_cons,List.all_nil,Bool.and_true,bq,lB n h,JU,Kc];omega
  .obtain⟨ac,c,l,ap⟩:=ab (n / 10) ad;refine⟨?_,c,l++[UInt8.ofNat (48+n % 10)],by rw[ap];rfl⟩;simp only[List.all_append,ac,List.all_cons,List.all_nil,Bool.and_true,Bool.true_and,bq,lB (n % 10) ad,JU,Kc];omega
theorem qo:∀(b7 dp:List UInt8) (n:Int),0<=n->b7.all bq=true->h2 n (b7++dp)=if h2 n b7<0 then -1 else h2 (h2 n b7) dp
 | [],dp,n,hn,_=>by
  have h0:h2 n []=n:=rfl
  rw[J8,h0,if_neg ad]
 | c::b7,dp,n,hn,h=>by
  simp only[List.all_cons,JU] at h;have hd:48<=c.toNat:=by have:=h.1;simp only[bq,JU,Kc] at this;exact this.1
  simp only[JX,h2];split
  .simp
  .exact qo b7 dp _ ad h.2
theorem xm(n:Nat)(h:n<=9223372036854775807):nc (iH n)=n:=by
 unfold nc
 induction n using Nat.strongRecOn with
 | _ n ab=>
  rw[iH];split
  .rename_i h;simp only[h2,lB n h];rw[if_neg ad];omega
  .have i:=ab (n / 10) ad ad;rw[qo _ _ _ ad (r7 _).1,i,if_neg ad];simp only[h2,lB (n % 10) ad];rw[if_neg ad];omega
def Atom.last(aH:List Atom):Option Atom:=aH.getLast?
theorem dO:∀(aH bs:List Atom),Atom.chain aH->Atom.chain bs->(∀a b,aH.getLast?=some a->bs.head?=some b->a.fits b)->Atom.chain (aH++bs)
 | [],bs,_,O,_=>O
 | [a],[],bE,_,_=>bE
 | [a],b::bs,bE,O,aA=>⟨bE,aA a b rfl rfl,O⟩
 | a::q::aH,bs,bE,O,aA=>by
  have ab:=dO (q::aH) bs bE.2.2 O (λx y hx aa=>aA x y (by rw[List.getLast?_cons_cons];exact hx) aa);exact⟨bE.1,bE.2.1,ab⟩
theorem count_append:∀(aH bs:List Atom),Atom.count (aH++bs)=Atom.count aH+Atom.count bs
 | [],bs=>by simp[Atom.count]
 | a::aH,bs=>by
  have ab:=count_append aH bs;cases a<;>simp only[JX,Atom.count,ab]<;>omega
def aQ(aH:List Atom):List UInt8:=aH.flatMap Atom.bytes
theorem a2(aH bs:List Atom):aQ (aH++bs)=aQ aH++aQ bs:=List.flatMap_append
theorem aZ(a:Atom)(bs:List Atom):aQ (a::bs)=a.bytes++aQ bs:=J2
theorem nG(c:UInt8)(b:Atom):(Atom.ws c).fits b:=⟨λh=>by simp[Atom.jR] at h,λs h=>by cases h⟩
theorem nt(a:Atom)(c:UInt8)(h:nF c=true):a.fits (.ws c):=by
 refine⟨λ_=>rfl,λs _ _ d hd=>?_⟩;simp only[Atom.head,Ka] at hd;subst hd;have key:∀s∈ef,∀d:UInt8,(d=32\/d=9\/d=10\/d=13)->(s++[d])∉eO/\¬(s=[47]/\d=47):=by
  intro s hs d hd;rcases hd with rfl|rfl|rfl|rfl<;>revert s<;>decide
 refine key s (by assumption) c ?_;simp only[nF,Bool.or_eq_true,beq_iff_eq] at h;rcases h with((h|h)|h)|h<;>simp[h]
theorem vQ(a b:Atom)(bE:a.jR=true)(O:b.jR=false):a.fits b:=⟨λ_=>O,λs h=>by subst h;simp[Atom.jR] at bE⟩
def rI(a:Atom):Prop:=a.jR=true/\a.fv\/a=.sg [45]\/a=.sg [33]\/a=.sg [40]
def FX(a:Atom):Prop:=a.jR=true\/a=.sg [41]\/a=.sg [93]
theorem Em(a:Atom)(h:a.jR=true)(aS:a.fv)(c:UInt8)(hc:a.head=some c):cb c=true:=by
 cases a with
 | ws _=>simp[Atom.jR] at h
 | sg _=>simp[Atom.jR] at h
 | word s=>
  obtain⟨⟨d,l,rfl,ac,_⟩,_⟩:=aS;simp only[Atom.head,List.head?_cons,Ka] at hc;subst hc
  simp[cb,ac]
 | num s=>
  obtain⟨⟨d,l,rfl⟩,ac,_⟩:=aS;simp only[Atom.head,List.head?_cons,Ka] at hc;subst hc;simp only[List.all_cons,JU] at ac;simp[cb,ac.1]
theorem mz(s:List UInt8)(hs:s=[45]\/s=[33]\/s=[40]\/s=[91])(b:Atom)(O:rI b):(Atom.sg s).fits b:=by
 refine⟨λh=>by simp[Atom.jR] at h,λt ht _ c hc=>?_⟩;injection ht with ht;subst ht;have Z:cb c=true\/c=45\/c=33\/c=40:=by
  rcases O with⟨ac,ap⟩|rfl|rfl|rfl
  .exact .inl (Em b ac ap c hc)
  all_goals simp[Atom.head] at hc;subst hc;simp
 have aH:c≠61/\c≠38/\c≠124/\c≠47:=by
  rcases Z with h|rfl|rfl|rfl
  .refine⟨?_,?_,?_,?_⟩<;>(rintro rfl;revert h;decide)
  all_goals decide
 rcases hs with rfl|rfl|rfl|rfl<;>simp[eO,aH]
theorem nr(a:Atom)(bE:FX a)(s:List UInt8)(hs:s=[41]\/s=[93]\/s=[59]\/s=[44]):a.fits (.sg s):=by
 rcases bE with h|rfl|rfl
 .exact vQ _ _ h rfl
 all_goals
  refine⟨λh=>by simp[Atom.jR] at h,λt ht _ c hc=>?_⟩;injection ht with ht;subst ht;rcases hs with rfl|rfl|rfl|rfl<;>(simp[Atom.head] at hc;subst hc;decide)
end Go.Proofs.YtnigabjngpnbiaaGreat
