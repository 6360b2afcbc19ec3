/- Part 5 of the proof. No condition of its own. -/
import Derived.Test.YtflecliffjbleaaGreatS04
namespace Go.Proofs.YtflecliffjbleaaGreat
open Go.RowKit Go.Proofs.Tryz
set_option maxRecDepth 1000000
set_option maxHeartbeats 25600000
set_option linter.unusedVariables false
variable{a:Act}{K:Act->World->Prop}{s:ByteArray}{l:List UInt8}{b cap k n:Nat}{o:Oper}{rest:PT}{G:Prop}{α β γ:Type}{c:UInt8}{S ab w:World}
section
variable {P:Program} {f:Nat->Prop} {B:Nat} {e t:TypeId} {z:Value} {size bytes:Nat}
theorem fm{Q:Exit->Act->World->Prop}(bO:cm P t e z size bytes)(s x:Operand)
  (bn:o.op=.call {callee:=.builtin .append,args:=#[s,x],argTypes:=#[t,t]})
  {A:Mk} {n c g:Nat} {l:List D} (h0:Gr f B e size S A n c l) {d:D} {cs:Array Value} {i:TypeId} (aS:ao S g i cs) (hd:d.rep S (ly f S (.slice A n c)) cs.toList)
  (hs:a.eval s=.slice A n c) (hx:a.eval x=.slice (some ⟨g,0,none⟩) 1 1) (T:cs.size=size)
  (r:(n+1)*bytes<=140737488355328) (y:n+1<=140737488355328) (C:B<=S.heap.size)
  (h:∀I aD ab,Gr f B e size ab I (n+1) aD (l++[d])->Fr (λb=>(Value.slice A n c).ownBlock=some b) S ab->dx S A n c I (n+1) aD->n+1<=aD->K (a.put o.dst (.slice I (n+1) aD)) ab):o.wp P a S K Q:=by
 obtain⟨hl,xs,ac,ax⟩:=h0;have aw:Src S size (some ⟨g,0,none⟩) 1 cs.toList:=⟨by simpa using T,D.tu _ _ hd,λ_=>⟨g,0,rfl,λj u bi=>by
  rw[LW,aS.cell];simpa using bi⟩⟩
 refine kn _ bO s x bn B _ n xs hs ac _ 1 1 cs.toList hx aw r y C (λh=>nomatch h) λG ab bR cR H=>?_;obtain⟨I,aD,rfl,hc,_⟩:=bH bR;refine h I aD ab (Gr.snoc hl ac ax hd (s:=S.heap.size) (Lz _) bR cR H) (Mg.grown cR λg aY=>.inl aY) (λb O=>?_) hc;exact z5
theorem xy{Q:Exit->Act->World->Prop}(bO:cm P t e z size bytes)(s x:Operand)
  (bn:o.op=.call {callee:=.builtin .append,args:=#[s,x],argTypes:=#[t,t]})
  {A A2:Mk} {n c m c2:Nat} {l k:List D} {cG:List Value} (h0:Gr f B e size S A n c l) (a9:D.aO S (ly f S (.slice A n c)) k cG) (aj:k.length=m) (aw:Src S size A2 m cG) (hn:A2=none->m=0)
  (hs:a.eval s=.slice A n c) (hx:a.eval x=.slice A2 m c2)
  (r:(n+m)*bytes<=140737488355328) (y:n+m<=140737488355328) (C:B<=S.heap.size)
  (h:∀I aD ab,Gr f B e size ab I (n+m) aD (l++k)->Fr (λb=>(Value.slice A n c).ownBlock=some b) S ab->dx S A n c I (n+m) aD->n+m<=aD->K (a.put o.dst (.slice I (n+m) aD)) ab):o.wp P a S K Q:=by
 obtain⟨hl,xs,ac,ax⟩:=h0;refine kn _ bO s x bn B _ n xs hs ac _ m c2 cG hx aw r y C hn λG ab bR cR H=>?_;obtain⟨I,aD,rfl,hc,_⟩:=bH bR;refine h I aD ab (Gr.HE hl aj ac ax a9 (s:=S.heap.size) (Lz _) bR cR H) (Mg.grown cR λg aY=>.inl aY) (λb O=>?_) hc;exact z5
theorem q6{ops:Array Oper}{rest:List Oper}{Q:Exit->Act->World->Prop}(bO:cm P t e z size bytes)(i:o.guard=none)(s x:Operand)
  (bn:o.op=.call {callee:=.builtin .append,args:=#[s,x],argTypes:=#[t,t]})
  {A A2:Mk} {n c m c2:Nat} {l k:List D} {cG:List Value} (h0:Gr f B e size S A n c l) (a9:D.aO S (ly f S (.slice A n c)) k cG) (aj:k.length=m) (aw:Src S size A2 m cG) (hn:A2=none->m=0)
  (hs:a.eval s=.slice A n c) (hx:a.eval x=.slice A2 m c2)
  (r:(n+m)*bytes<=140737488355328) (y:n+m<=140737488355328) (C:B<=S.heap.size)
  (h:∀I aD ab,Gr f B e size ab I (n+m) aD (l++k)->Fr (λb=>(Value.slice A n c).ownBlock=some b) S ab->dx S A n c I (n+m) aD->n+m<=aD->wpList P ops Q rest (a.put o.dst (.slice I (n+m) aD)) ab):wpList P ops Q (o::rest) a S:=
 wpList_plain i λ_ hK=>xy bO s x bn h0 a9 aj aw hn hs hx r y C λI aD ab ce g2 cN cZ=>hK _ _ (h I aD ab ce g2 cN cZ)
theorem jz{Q:Exit->Act->World->Prop}(bO:cm P t e z size bytes)(s x:Operand)
  (bn:o.op=.call {callee:=.builtin .append,args:=#[s,x],argTypes:=#[t,t]})
  {A2:Mk} {g m c2:Nat} {k:List D} {cG:List Value} (h0:Gr f B e size S (some ⟨g,0,none⟩) 0 0 []) (a9:D.aO S (ly f S (.slice (some ⟨g,0,none⟩) 0 0)) k cG) (aj:k.length=m) (aw:Src S size A2 m cG) (hn:A2=none->m=0)
  (hs:a.eval s=.slice (some ⟨g,0,none⟩) 0 0) (hx:a.eval x=.slice A2 m c2)
  (r:m*bytes<=140737488355328) (y:m<=140737488355328) (C:B<=S.heap.size)
  (h:∀I aD ab,Gr f B e size ab I m aD k->Fr (λb=>b=g) S ab->(∀b,(Value.slice I m aD).ownBlock=some b->b=g\/S.heap.size<=b)->m<=aD->K (a.put o.dst (.slice I m aD)) ab):o.wp P a S K Q:=by
 refine xy bO s x bn h0 a9 aj aw hn hs hx (by rw[LW];exact r) ad C λI aD ab ce g2 cN cZ=>?_;simp only[LW,L8] at ce cN cZ ⊢;exact h I aD ab ce (g2.mono λb O=>by simp[Value.ownBlock] at O;exact O.symm) (λb O=>(cN b O).imp (λh=>by simp[Value.ownBlock] at h;exact h.symm) id) cZ
end
section
variable {P:Program} {ops:Array Oper} {Q:Exit->Act->World->Prop} {R:World->World->Prop} {tails:List Nat}
theorem iW{δ:Type}{aa:α->β->γ->δ->Act}{C:α->β->γ->δ->World->Prop}(h:(∀x y z u V,C x y z u V->cR P ops Q R tails rest (aa x y z u) V)->G)(key:∀x y z u V,C x y z u V->cR P ops Q R tails rest (aa x y z u) V):G:=h key
theorem iV{aa:α->β->γ->Act}{C:α->β->γ->World->Prop}(h:(∀x y z V,C x y z V->cR P ops Q R tails rest (aa x y z) V)->G)(key:∀x y z V,C x y z V->cR P ops Q R tails rest (aa x y z) V):G:=h key
theorem q2{aa:α->β->Act}{C:α->β->World->Prop}(h:(∀x y V,C x y V->cR P ops Q R tails rest (aa x y) V)->G)(key:∀x y V,C x y V->cR P ops Q R tails rest (aa x y) V):G:=h key
theorem xo{aa:α->Act}{C:α->World->Prop}(h:(∀x V,C x V->cR P ops Q R tails rest (aa x) V)->G)(key:∀x V,C x V->cR P ops Q R tails rest (aa x) V):G:=h key
end
theorem Ib{a b:World}(ac:Ext w a)(ax:Ext w b)(hs:a.heap.size=w.heap.size+1)(bP:a.heap.size<=b.heap.size):Fr (λk=>k=w.heap.size) a b:=
 ⟨ax.os.trans ac.os.symm,ax.tape.trans ac.tape.symm,ax.output.trans ac.output.symm,bP,λk aj hn=>(ax.block k ad λh=>h).trans (ac.block k ad λh=>h).symm⟩
theorem wC{P:Nat->Prop}{v:Value}{d:D}{cs:List Value}(h:d.rep w (ly P w v) cs)(he:Ext w ab):d.rep ab (ly P ab v) cs:=
 D.aK (λb O=>⟨O.1,LC O.2.1 he.size,O.2.2⟩) _ _ (D.aP (λb O=>he.block b O.2.1 λh=>h) _ _ h)
def pC(c:UInt8):Bool:=c == 32 || c == 9 || c == 10 || c == 13
def bX(c:UInt8):Bool:=(decide (97<=c.toNat) && decide (c.toNat<=122)) || (decide (65<=c.toNat) && decide (c.toNat<=90)) || decide (c.toNat=95)
def bB(c:UInt8):Bool:=decide (48<=c.toNat) && decide (c.toNat<=57)
def cf(c:UInt8):Bool:=bX c || bB c
def tM:List (List UInt8):=[[118,97,114],[109,117,116,101,120],[114,109,117,116,101,120],[102,117,110,99],[108,111,99,107],[117,110,108,111,99,107],[103,111],[105,102],[101,108,115,101],[119,104,105,108,101],[114,101,116,117,114,110]]
def dw(s:List UInt8):Bool:=decide (s∈tM)
def bF(s:List UInt8):Bool:=(match s with|[]=>false|c::l=>bX c && l.all cf) && decide (s.length<=16) && !dw s
def fC:List (List UInt8):=[[60,61],[62,61],[61,61],[33,61],[38,38],[124,124]]
def eR:List (List UInt8):=[[40],[41],[123],[125],[91],[93],[44],[59],[61],[43],[45],[42],[47],[37],[60],[62],[33]]
def fi(l:List UInt8):Nat:=if decide (l.take 2∈fC) && decide (2<=l.length) then 2 else if decide (l.take 1∈eR) then 1 else 0
def aS:Bool->List UInt8->List UInt8
 | _,[]=>[]
 | true,c::l=>if c=10 then aS false l else aS true l
 | false,c::l=>if pC c then aS false l else if c=47/\l.head?=some 47 then aS true l else c::l
theorem jR:∀(b:Bool) (l:List UInt8),(aS b l).length<=l.length
 | _,[]=>by unfold aS;simp
 | true,c::l=>by
  unfold aS;split
  .have:=jR false l;simp;omega
  .have:=jR true l;simp;omega
 | false,c::l=>by
  unfold aS;split
  .have:=jR false l;simp;omega
  .split
   .have:=jR true l;simp;omega
   .simp
def iP:Int->List UInt8->Int
 | n,[]=>n
 | n,c::l=>if n > (9223372036854775807 - ((c.toNat:Int) - 48)) / 10 then -1 else iP (10*n+((c.toNat:Int) - 48)) l
def oT(l:List UInt8):Int:=iP 0 l
structure Tok where
 kind:Int
 text:List UInt8
 num:Int
 pos:Int
def fI:Nat->Nat->List UInt8->List Tok->List Tok×Int×Int
 | 0,_,_,_=>([],0,1)
 | f+1,n,l,acc=>
  match aS false l with
  | []=>(acc++[⟨5,[],0,n⟩],n,0)
  | c::r=>
   let at_:Int:=(n:Int) - (r.length+1)
   if bX c then
    let t:=(c::r).takeWhile cf
    if !dw t && decide (16<t.length) then ([],at_,3)
    else if acc.length=4000 then ([],at_,3)
    else fI f n ((c::r).dropWhile cf) (acc++[⟨if dw t then 3 else 1,t,0,at_⟩])
   else if bB c then
    let t:=(c::r).takeWhile bB
    if oT t<0 then ([],at_,2)
    else if acc.length=4000 then ([],at_,3)
    else fI f n ((c::r).dropWhile bB) (acc++[⟨2,t,oT t,at_⟩])
   else if fi (c::r)=0 then ([],at_,1)
   else if acc.length=4000 then ([],at_,3)
   else fI f n ((c::r).drop (fi (c::r))) (acc++[⟨4,(c::r).take (fi (c::r)),0,at_⟩])
def ez(l:List UInt8):List Tok×Int×Int:=if 262144<l.length then ([],262144,3) else fI (l.length+1) l.length l []
inductive Atom where
 | ws (c:UInt8)
 | word (s:List UInt8)
 | num (s:List UInt8)
 | sg (s:List UInt8)
def Atom.bytes:Atom->List UInt8
 | .ws c=>[c]
 | .word s=>s
 | .num s=>s
 | .sg s=>s
def Atom.gk:Atom->Prop
 | .ws c=>pC c=true
 | .word s=>(∃c l,s=c::l/\bX c=true/\l.all cf=true)/\(dw s=true\/s.length<=16)
 | .num s=>(∃c l,s=c::l)/\s.all bB=true/\0<=oT s
 | .sg s=>s∈fC\/s∈eR
def Atom.kB:Atom->Bool
 | .word _=>true
 | .num _=>true
 | _=>false
def Atom.head:Atom->Option UInt8
 | .ws c=>some c
 | .word s=>s.head?
 | .num s=>s.head?
 | .sg s=>s.head?
def Atom.fits(a b:Atom):Prop:=
 (a.kB=true->b.kB=false)/\∀s,a=.sg s->s∈eR->∀c,b.head=some c->(s++[c])∉fC/\¬(s=[47]/\c=47)
def Atom.count:List Atom->Nat
 | []=>0
 | .ws _::l=>Atom.count l
 | _::l=>Atom.count l+1
def Atom.chain:List Atom->Prop
 | []=>True
 | [a]=>a.gk
 | a::b::l=>a.gk/\a.fits b/\Atom.chain (b::l)
theorem xz(c:UInt8)(h:pC c=true):bX c=false/\bB c=false:=by
 simp only[pC,Bool.or_eq_true,beq_iff_eq] at h;rcases h with((rfl|rfl)|rfl)|rfl<;>decide
theorem wF(c:UInt8)(h:bX c=true):pC c=false/\c≠47:=by
 refine⟨?_,?_⟩
 .cases hw:pC c with
  | false=>rfl
  | true=>have:=(xz c hw).1;rw[h] at this;cases this
 .rintro rfl;revert h;decide
theorem yS(c:UInt8)(h:bB c=true):pC c=false/\c≠47/\bX c=false:=by
 refine⟨?_,?_,?_⟩
 .cases hw:pC c with
  | false=>rfl
  | true=>have:=(xz c hw).2;rw[h] at this;cases this
 .rintro rfl;revert h;decide
 .simp only[bB,LO,Md] at h;simp only[bX,Bool.or_eq_false_iff,Bool.and_eq_false_iff,decide_eq_false_iff_not];omega
theorem hf{p:α->Bool}{s r:List α}(h:s.all p=true)(a9:∀c,r.head?=some c->p c=false):(s++r).takeWhile p=s/\(s++r).dropWhile p=r:=by
 induction s with
 | nil=>
  cases r with
  | nil=>simp
  | cons c r=>have:=a9 c rfl;simp[this]
 | cons a s aq=>
  simp only[List.all_cons,LO] at h;have:=aq h.2;simp[h.1,this]
def sr(n:Nat):List Atom->List Tok
 | []=>[⟨5,[],0,n⟩]
 | .ws _::l=>sr n l
 | .word s::l=>⟨if dw s then 3 else 1,s,0,(n:Int) - ((s++l.flatMap Atom.bytes).length:Int)⟩::sr n l
 | .num s::l=>⟨2,s,oT s,(n:Int) - ((s++l.flatMap Atom.bytes).length:Int)⟩::sr n l
 | .sg s::l=>⟨4,s,0,(n:Int) - ((s++l.flatMap Atom.bytes).length:Int)⟩::sr n l
theorem pZ{acc L:List Tok}{k m q p:Int}{t u:List UInt8}{R:List Tok×Int×Int}{n:Int}(h:R=((acc++[⟨k,t,m,p⟩])++L,n,0))(hu:t=u)(hp:p=q):R=(acc++⟨k,u,m,q⟩::L,n,0):=by
 subst hu hp;rw[h,LQ];rfl
theorem jL:∀(aT:List Atom) (f n:Nat) (acc:List Tok),Atom.chain aT->(aT.flatMap Atom.bytes).length<f->acc.length+Atom.count aT<=4000->fI f n (aT.flatMap Atom.bytes) acc=(acc++sr n aT,(n:Int),0)
 | [],f,n,acc,_,J,_=>by
  cases f with
  | zero=>omega
  | succ f=>simp[fI,aS,sr]
 | a::aT,f,n,acc,hc,J,hn=>by
  have aY:a.gk:=by cases aT<;>simp only[Atom.chain] at hc<;>first|exact hc|exact hc.1
  have o:Atom.chain aT:=by
   cases aT with
   | nil=>trivial
   | cons b l=>exact hc.2.2
  have i:∀b l,aT=b::l->a.fits b:=λb l h=>by subst h;exact hc.2.1
  have q:∀c,(aT.flatMap Atom.bytes).head?=some c->∃b l,aT=b::l/\b.head=some c/\b.gk:=by
   intro c h
   cases aT with
   | nil=>simp at h
   | cons b l=>
    have j:b.gk:=by cases l<;>simp only[Atom.chain] at o<;>first|exact o|exact o.1
    refine⟨b,l,rfl,?_,j⟩
    cases b with
    | ws d=>simpa[Atom.bytes,Atom.head] using h
    | word s=>
     obtain⟨⟨d,m,rfl,_⟩,_⟩:=j
     simpa[Atom.bytes,Atom.head] using h
    | num s=>
     obtain⟨⟨d,m,rfl⟩,_⟩:=j
     simpa[Atom.bytes,Atom.head] using h
    | sg s=>
     have:∃d m,s=d::m:=by
      cases s with
      | nil=>rcases j with h|h<;>simp[fC,eR] at h
      | cons d m=>exact⟨d,m,rfl⟩
     obtain⟨d,m,rfl⟩:=this;simpa[Atom.bytes,Atom.head] using h
  have v:∀b:Atom,b.kB=false->b.gk->∀c,b.head=some c->cf c=false:=by
   intro b O j c hc
   cases b with
   | ws d=>
    simp only[Atom.head,Mb] at hc;subst hc;have:=xz d j
    simp[cf,this.1,this.2]
   | word s=>simp[Atom.kB] at O
   | num s=>simp[Atom.kB] at O
   | sg s=>
    have key:∀s∈fC++eR,∀c,s.head?=some c->cf c=false:=by decide
    refine key s ?_ c hc;rcases j with h|h<;>simp[h]
  cases f with
  | zero=>omega
  | succ f=>
   have hl:((a::aT).flatMap Atom.bytes).length=a.bytes.length+(aT.flatMap Atom.bytes).length:=by rw[LY,LD]
   cases a with
   | ws c=>
    have hw:pC c=true:=aY;have hlen:(aT.flatMap Atom.bytes).length<f+1:=ad;have aq:=jL aT (f+1) n acc o hlen (by simpa[Atom.count] using hn);have hs:aS false (c::aT.flatMap Atom.bytes)=aS false (aT.flatMap Atom.bytes):=by
     rw[aS,if_pos hw]
    simp only[LY,Atom.bytes,List.singleton_append];unfold fI at aq ⊢;rw[hs]
    exact aq
   | word s=>
    obtain⟨⟨c,l,rfl,bq,z⟩,aj⟩:=aY;have cP:=wF c bq;have u:∀d,(aT.flatMap Atom.bytes).head?=some d->cf d=false:=λd hd=>by
     obtain⟨b,l,has,O,j⟩:=q d hd;exact v b ((i b l has).1 rfl) j d O
    have e:=hf (p:=cf) (s:=c::l) (r:=aT.flatMap Atom.bytes) (by simp[z,cf,bq]) u;simp only[LR] at e;have g:aS false (c::(l++aT.flatMap Atom.bytes))=c::(l++aT.flatMap Atom.bytes):=by
     rw[aS,if_neg (by simp[cP.1]),if_neg (by simp[cP.2])]
    simp only[Atom.count] at hn;have aq:=λt=>jL aT f n (acc++[t]) o (by simp only[Atom.bytes,LP] at hl;omega) (by simp;omega);simp only[LY,Atom.bytes,LR];unfold fI;simp only[g,bq,if_true,e.1,e.2];rw[if_neg ?_,if_neg ad]
    .exact pZ (aq _) rfl (by simp)
    .rcases aj with h|h
     .simp[h]
     .have al:¬16<(c::l).length:=ad
      simp only[al,decide_false,Bool.and_false,Me,not_false_eq_true]
   | num s=>
    obtain⟨⟨c,l,rfl⟩,hd,bG⟩:=aY;simp only[List.all_cons,LO] at hd;have cP:=yS c hd.1;have u:∀d,(aT.flatMap Atom.bytes).head?=some d->bB d=false:=λd hd=>by
     obtain⟨b,l,has,O,j⟩:=q d hd;have:=v b ((i b l has).1 rfl) j d O;simp only[cf,Bool.or_eq_false_iff] at this;exact this.2
    have e:=hf (p:=bB) (s:=c::l) (r:=aT.flatMap Atom.bytes) (by simp[hd]) u;simp only[LR] at e;have g:aS false (c::(l++aT.flatMap Atom.bytes))=c::(l++aT.flatMap Atom.bytes):=by
     rw[aS,if_neg (by simp[cP.1]),if_neg (by simp[cP.2.1])]
    simp only[Atom.count] at hn;have aq:=λt=>jL aT f n (acc++[t]) o (by simp only[Atom.bytes,LP] at hl;omega) (by simp;omega);simp only[LY,Atom.bytes,LR];unfold fI;simp only[g,cP.2.2,Me,if_false,hd.1,if_true,e.1,e.2];rw[if_neg ad,if_neg ad]
    exact pZ (aq _) rfl (by simp)
   | sg s=>
    simp only[Atom.count] at hn;have aq:=λt=>jL aT f n (acc++[t]) o (by
     have:1<=s.length:=by
      cases s with
      | nil=>rcases aY with h|h<;>simp[fC,eR] at h
      | cons d m=>simp
     simp only[Atom.bytes] at hl;omega) (by simp;omega)
    have ax:∀s∈fC,∃c d,s=[c,d]/\pC c=false/\c≠47/\bX c=false/\bB c=false:=by
     intro s hs;simp only[fC,LS,List.not_mem_nil,or_false] at hs;rcases hs with rfl|rfl|rfl|rfl|rfl|rfl<;>exact⟨_,_,rfl,by decide,by decide,by decide,by decide⟩
    have ac:∀s∈eR,∃c,s=[c]/\pC c=false/\bX c=false/\bB c=false:=by
     intro s hs;simp only[eR,LS,List.not_mem_nil,or_false] at hs;rcases hs with rfl|rfl|rfl|rfl|rfl|rfl|rfl|rfl|rfl|rfl|rfl|rfl|rfl|rfl|rfl|rfl|rfl<;>exact⟨_,rfl,by decide,by decide,by decide⟩
    by_cases bP:s∈fC
    .obtain⟨c,d,rfl,cv,bR,cR,H⟩:=ax s bP;have g:aS false (c::d::aT.flatMap Atom.bytes)=c::d::aT.flatMap Atom.bytes:=by
      rw[aS,if_neg (by simp[cv]),if_neg (by simp[bR])]
     have k:fi (c::d::aT.flatMap Atom.bytes)=2:=by simp[fi,bP]
     exact Hk
    .have cg:s∈eR:=aY.resolve_left bP;obtain⟨c,rfl,cv,cR,H⟩:=ac s cg;have c3:∀d,(aT.flatMap Atom.bytes).head?=some d->[c,d]∉fC/\¬(c=47/\d=47):=λd hd=>by
      obtain⟨b,l,has,O,_⟩:=q d hd;have:=(i b l has).2 [c] rfl cg d O;simpa using this
     have g:aS false (c::aT.flatMap Atom.bytes)=c::aT.flatMap Atom.bytes:=by
      rw[aS,if_neg (by simp[cv]),if_neg ?_];rintro⟨e1,e2⟩;exact(c3 47 e2).2 ⟨e1,rfl⟩
     have k:fi (c::aT.flatMap Atom.bytes)=1:=by
      unfold fi;rw[if_neg ?_,if_pos (decide_eq_true (by simpa using cg))];intro h;simp only[LO,Md,LP] at h
      cases a9:aT.flatMap Atom.bytes with
      | nil=>rw[a9] at h;simp at h
      | cons d r=>
       rw[a9] at h;exact(c3 d (by rw[a9];rfl)).1 (by simpa using h.1)
     exact Hk
theorem wG(aT:List Atom)(f n:Nat)(acc:List Tok)(h:Atom.chain aT)(J:(aT.flatMap Atom.bytes).length<f)(hn:acc.length+Atom.count aT<=4000):(fI f n (aT.flatMap Atom.bytes) acc).2.2=0:=by
 rw[jL aT f n acc h J hn]
theorem ml(c:UInt8)(w:World):Calls prog 101 #[.int .u8 c.toNat] w λe ab=>e=.returned (.bool (bX c))/\w=ab:=by
 go_enter func101,ntmps101;go_wp2
 all_goals
  go_ret;refine⟨ret_bool ?_,rfl⟩;rw[Bool.eq_iff_iff];simp[bX];omega
theorem lg(c:UInt8)(w:World):Calls prog 102 #[.int .u8 c.toNat] w λe ab=>e=.returned (.bool (bB c))/\w=ab:=by
 go_enter func102,ntmps102;go_wp2
 all_goals
  go_ret;refine⟨ret_bool ?_,rfl⟩;rw[Bool.eq_iff_iff];simp[bB];omega
theorem tD{x:ByteArray}(h:x≠s):(x.toList == s.toList)=false:=by
 refine beq_eq_false_iff_ne.2 λe=>h ?_;rw[ByteArray.ext_iff];rw[Go.Lib.toList_data,Go.Lib.toList_data] at e;exact Array.toList_inj.1 e
def hasB(l:Ml)(s:ByteArray):Bool:=l.any λx=>decide (x=s)
theorem y3{l:Ml}(h:∀(j:Nat) (x:ByteArray),l[j]?=some x->x≠s):hasB l s=false:=by
 unfold hasB;rw[List.any_eq_false];exact Am
theorem y4{l:Ml}{j:Nat}(h:l[j]?=some s):hasB l s=true:=by
 unfold hasB;rw[List.any_eq_true];exact⟨s,LF h,by simp⟩
theorem pk(A:Mk)(n c:Nat)(l:Ml)(s:ByteArray)(w:World)(h:cA (EF oQ) 1 w w.heap.size A n l)(hn:n<=1000000) :
  Calls prog 122 #[.slice A n c,.string s] w λe ab=>e=.returned (.bool (hasB l s))/\w=ab:=by
 have H:=ae h;clear h;go_enter func122,ntmps122;go_wp2
 go_loop [5] (λi=>∃k:Nat,k<=n/\i=.int .i64 k/\∀(j:Nat) (x:ByteArray),j<k->l[j]?=some x->x≠s) (λi=>n - (intOf i).toNat)
 case atStart=>exact⟨0,L3 _,rfl,λj x h=>ad⟩
 case round=>
  obtain⟨k,aj,rfl,bl⟩:=hrel;have ca:=ae bl;clear bl;by_cases ap:k<n
  .obtain⟨b,o,x,rfl,O,hx,hc⟩:=H.str ap;have aR:=ae hx;clear hx;by_cases hs:x=s
   .subst hs;go_wp2;go_ret;exact⟨ret_bool (y4 aR.o).symm,rfl⟩
   .have q:=tD hs;have bM:=ae hs;clear hs;go_wp2
    go_round
    case rel=>exact⟨k+1,ad,by go_num,λj y bi bb=>by
     by_cases z:j=k
     .subst z;rw[aR.o] at bb;injection bb with bb;subst bb;exact bM.o
     .exact ca.o j y ad bb⟩
    case measure=>exact aE
  .have a7:k=n:=ad;have cK:=ae a7;clear a7;go_wp2;go_ret;exact⟨ret_bool (y3 λj x bi=>ca.o j x (by have:=(List.getElem?_eq_some_iff.1 bi).1;have:=H.1;have:=cK.o;omega) bi).symm,rfl⟩
theorem m3(w:World)(cs:Array Value)(t:TypeId)(l:Ml)(hc:cs=(l.map Value.string).toArray)(hl:l.length=n):cA (EF oQ) 1 (w.alloc (.cells cs t)) (w.alloc (.cells cs t)).heap.size (some ⟨w.heap.size,0,none⟩) n l:=by
 subst hc;refine⟨hl,λ_=>⟨w.heap.size,0,rfl,by simp,λk x hx=>⟨oQ x,rfl,rfl,λj v bi=>?_⟩⟩⟩;have cI:j=0/\v=.string x:=by
  exact z8
 obtain⟨rfl,rfl⟩:=cI;rw[(ao.new w t _).cell];simp[hx]
def strOf(l:List UInt8):ByteArray:=⟨l.toArray⟩
theorem mX(L:List (List UInt8))(s:ByteArray):hasB (L.map strOf) s=decide (s.data.toList∈L):=by
 unfold hasB;rw[Bool.eq_iff_iff,List.any_eq_true,Md];constructor
 .rintro⟨x,hx,he⟩;obtain⟨y,bb,rfl⟩:=L5.1 hx;simp only[Md] at he;subst he;exact bb
 .intro h;refine⟨strOf s.data.toList,L5.2 ⟨_,h,rfl⟩,?_⟩;simp[strOf]
def ix(s:ByteArray):Bool:=dw s.data.toList
theorem m9(s:ByteArray)(w:World):Calls prog 103 #[.string s] w λe ab=>e=.returned (.bool (ix s))/\Ext w ab:=by
 go_enter func103,ntmps103;go_wp2_with(fail);refine(pk _ 11 11 (tM.map strOf) s _ (m3 w _ _ _ rfl rfl) ad).mono ?_;rintro e ab ⟨rfl,rfl⟩;go_wp2;go_ret;exact⟨ret_bool (mX _ _),Mg.alloc _⟩
def jN(s:ByteArray):Bool:=bF s.data.toList
theorem r5{x:UInt8}(hx:l[k]?=some x)(hl:bX x=false)(aj:k=0\/bB x=false):bF l=false:=by
 cases l with
 | nil=>simp at hx
 | cons c l=>
  unfold bF;simp only[Bool.and_eq_false_iff];left;left
  cases k with
  | zero=>
   simp at hx;subst hx
   exact .inl hl
  | succ k=>
   right;rw[List.getElem?_cons_succ] at hx;have hd:=aj.resolve_left ad;rw[List.all_eq_false];exact⟨x,LF hx,by simp[cf,hl,hd]⟩
theorem wO(h:∀(j:Nat) (x:UInt8),l[j]?=some x->bX x=true\/(0<j/\bB x=true)):bF l=(decide (1<=l.length) && decide (l.length<=16) && !dw l):=by
 cases l with
 | nil=>rfl
 | cons c l=>
  have h0:=(h 0 c rfl).resolve_right ad;have y:l.all cf=true:=by
   rw[List.all_eq_true];intro x hx;obtain⟨j,bi⟩:=List.getElem?_of_mem hx;have:=h (j+1) x (by rw[List.getElem?_cons_succ];exact bi);unfold cf;rcases this with ac|ac<;>simp[ac]
  unfold bF;simp[h0,y]
theorem byte_at(h:k<s.size):s.data.toList[k]?=some s[k]:=by
 rw[List.getElem?_eq_getElem (by simpa using h)];rfl
theorem hq(s:ByteArray)(w:World)(hs:s.size<=1000000):Calls prog 108 #[.string s] w λe ab=>e=.returned (.bool (jN s))/\Ext w ab:=by
 go_enter func108,ntmps108;go_wp2
 go_loop [3] (λi=>∃k:Nat,k<=s.size/\i=.int .i64 k/\∀(j:Nat) (x:UInt8),j<k->s.data.toList[j]?=some x->bX x=true\/(0<j/\bB x=true)) (λi=>s.size - (intOf i).toNat)
 case atStart=>exact⟨0,L3 _,rfl,λj x h=>ad⟩
 case round=>
  obtain⟨k,aj,rfl,bl⟩:=hrel;have ca:=ae bl;clear bl;by_cases ap:k<s.size
  .have I:=ae (byte_at ap);have step:(bX s[k]=true\/(0<k/\bB s[k]=true))->∀(j:Nat) (x:UInt8),j<k+1->s.data.toList[j]?=some x->bX x=true\/(0<j/\bB x=true):=by
    intro h j x bi hx;by_cases z:j=k
    .subst z;rw[I.o] at hx;injection hx with hx;subst hx;exact h
    .exact ca.o j x ad hx
   have bM:=ae step;clear step;go_wp2_with(fail);refine(ml s[k] w).mono ?_;rintro e ab ⟨rfl,rfl⟩;by_cases hl:bX s[k]=true
   .rw[hl];have b2:=ae hl;clear hl;go_wp2
    go_round
    case rel=>exact⟨k+1,ad,by go_num,bM.o (.inl b2.o)⟩
    case measure=>exact aE
   .have aa:bX s[k]=false:=by simpa using hl
    rw[aa];have b2:=ae aa;clear hl aa;by_cases bm:k=0
    .have cK:=ae bm;subst bm;go_wp2;go_ret;exact⟨ret_bool (r5 I.o b2.o (.inl rfl)).symm,Mg⟩
    .have q:((k:Int) == 0)=false:=by simpa using bm
     have ar:(k == 0)=false:=by simpa using bm
     have cK:=ae bm;clear bm;go_wp2_with(fail);refine(lg s[k] w).mono ?_;rintro e ab ⟨rfl,rfl⟩;by_cases hd:bB s[k]=true
     .rw[hd];have dQ:=ae hd;clear hd;go_wp2
      go_round
      case rel=>exact⟨k+1,ad,by go_num,bM.o (.inr ⟨by have:=cK.o;omega,dQ.o⟩)⟩
      case measure=>exact aE
     .have C:bB s[k]=false:=by simpa using hd
      rw[C];have dQ:=ae C;clear hd C;go_wp2;go_ret;exact⟨ret_bool (r5 I.o b2.o (.inr dQ.o)).symm,Mg⟩
  .have a7:k=s.size:=ad;have m:jN s=(decide (1<=s.size) && decide (s.size<=16) && !ix s):=by
    have:=wO (l:=s.data.toList) (λj x hx=>ca.o j x (by have:=(List.getElem?_eq_some_iff.1 hx).1;simp at this;rw[a7];exact this) hx);simpa[jN,ix] using this
   have I:=ae m;subst a7;clear m;by_cases ac:1<=s.size/\s.size<=16
   .have q1:decide ((s.size:Int)>=1)=true:=by simp;omega
    have cO:decide ((s.size:Int)<=16)=true:=by simp;omega
    have a2:=ae (show jN s=!ix s by rw[I.o];simp[ac]);clear ac;go_wp2_with(fail);refine(m9 s w).mono ?_;rintro e ab ⟨rfl,O⟩;have bH:=ae O;clear O;go_wp2;go_ret;exact⟨ret_bool a2.symm,bH.o⟩
   .have a2:=ae (show jN s=false by rw[I.o];simp;omega);by_cases ax:1<=s.size
    .have q1:decide ((s.size:Int)>=1)=true:=by simp;omega
     have cO:decide ((s.size:Int)<=16)=false:=by simp;omega
     clear ac ax;go_wp2;go_ret;exact⟨ret_bool a2.symm,Mg⟩
    .have q1:decide ((s.size:Int)>=1)=false:=by simp;omega
     clear ac ax;go_wp2;go_ret;exact⟨ret_bool a2.symm,Mg⟩
structure fw(w:World)(b o cap:Nat)(s:ByteArray):Prop where
 bytes:Lib.Bytes w b o s
 lt:b<w.heap.size
 fit:s.size<=cap
 small:s.size<=1000000
theorem fw.on{o:Nat}(h:fw w b o cap s)(O:Ext w ab):fw ab b o cap s:=
 ⟨λi al=>(O.cell h.lt (λh=>h)).trans (h.bytes i al),LC h.lt O.size,h.fit,h.small⟩
theorem gy(s:ByteArray)(j n:Nat):(s.extract j (j+n)).data.toList=(s.data.toList.drop j).take n:=by
 rw[Lib.extract_data,Nat.add_sub_cancel_left]
theorem xg(s:ByteArray):strOf s.data.toList=s:=by
 unfold strOf;cases s
 simp
theorem ob{o:Nat}(hc:s.size<=cap)(hn:0<n)(aj:k+n<=s.size)(W:World):
  (Instr.slice 78 (.slice (some ⟨b,o,none⟩) s.size cap) (some (.int .i64 (k:Int))) (some (.int .i64 ((k:Int)+(n:Int)))) none).run prog W=.ok (.slice (some ⟨b,o+k,none⟩) n (cap - k)) W:=by
 have:=Lib.run_slice_window (P:=prog) W 78 5 Tryz.underlying78 (λw=>by kernel_rfl) b o s.size cap k (k+n) ad ad;rw[show k+n - k=n by omega,Int.natCast_add] at this;exact this
theorem ki{o:Nat}(h:fw w b o cap s)(c:Nat)(aj:k+n<=s.size):
  (convert 78 9 (.slice (some ⟨b,o+k,none⟩) n c)).run prog w=.ok (.string (s.extract k (k+n))) w:=
 Lib.run_convert_window w _ _ _ Tryz.underlying78 Tryz.underlying5 Tryz.underlying9 b o s h.bytes k n c aj
theorem EX(s:ByteArray)(b o cap k:Nat)(w:World)(h:fw w b o cap s)(aj:k<s.size) :
  Calls prog 105 #[.slice (some ⟨b,o,none⟩) s.size cap,.int .i64 k] w λe ab=>e=.returned (.int .i64 (fi (s.data.toList.drop k)))/\Ext w ab:=by
 have H:=ae h;have U:=h.small;have M:=h.fit;have s1:=λW=>ob (b:=b) (o:=o) h.fit (k:=k) (n:=1) ad ad W;have ce:∀W,Ext w W->∀(cs:Array Value) (t:TypeId),(convert 78 9 (.slice (some ⟨b,o+k,none⟩) 1 (cap - k))).run prog (W.alloc (.cells cs t))=.ok (.string (s.extract k (k+1))) (W.alloc (.cells cs t)):=λW bd cs t=>ki (h.on (bd.alloc (.cells cs t))) (k:=k) (n:=1) (cap - k) ad;have S:=ae ce;clear ce;have hf:(0:Int)<=(k:Int):=ad;clear h;by_cases ax:k+1<s.size
 .have s2:=λW=>ob (b:=b) (o:=o) M (k:=k) (n:=2) ad ad W;have c2:=λ(cs:Array Value) (t:TypeId)=>ki (H.on (Mg.alloc (.cells cs t))) (k:=k) (n:=2) (cap - k) ad;simp only[Int.cast_ofNat_Int] at s1 s2;go_enter func105,ntmps105;go_wp2_with(fail);refine(pk _ 6 6 (fC.map strOf) _ _ (m3 w _ _ _ rfl rfl) ad).mono ?_;rintro e ab ⟨rfl,rfl⟩;rw[mX,gy];have ct:decide (2<=(s.data.toList.drop k).length)=true:=by simp;omega
  by_cases hm:(s.data.toList.drop k).take 2∈fC
  .have a2:=ae (show fi (s.data.toList.drop k)=2 by unfold fi;rw[decide_eq_true hm,ct];rfl);rw[decide_eq_true hm];clear hm ct;exact vG
  .have a2:=ae (show fi (s.data.toList.drop k)=if decide ((s.data.toList.drop k).take 1∈eR) then 1 else 0 by unfold fi;rw[decide_eq_false hm];rfl);rw[decide_eq_false hm];clear hm ct c2 s2;generalize bd:World.alloc w _=W;have aF:=aZ bd;have c1:=S.o W aF;clear bd;go_wp2_with(fail);refine(pk _ 17 17 (eR.map strOf) _ _ (m3 W _ _ _ rfl rfl) ad).mono ?_;rintro e ab ⟨rfl,rfl⟩;rw[mX,gy];by_cases hm:(s.data.toList.drop k).take 1∈eR
   .rw[decide_eq_true hm] at a2 ⊢;exact Ao
   .rw[decide_eq_false hm] at a2 ⊢;exact Ao
 .have ct:decide (2<=(s.data.toList.drop k).length)=false:=by simp;omega
  have da:decide ((k:Int)+1<(s.size:Int))=false:=by simp;omega
  have db:¬(k:Int)+1<(s.size:Int):=ad;have a2:=ae (show fi (s.data.toList.drop k)=if decide ((s.data.toList.drop k).take 1∈eR) then 1 else 0 by unfold fi;rw[ct,Bool.and_false];rfl);simp only[Int.cast_ofNat_Int] at s1;clear ct;go_enter func105,ntmps105;have c1:=S.o w Mg;go_wp2_with(fail);refine(pk _ 17 17 (eR.map strOf) _ _ (m3 w _ _ _ rfl rfl) ad).mono ?_;rintro e ab ⟨rfl,rfl⟩;rw[mX,gy];by_cases hm:(s.data.toList.drop k).take 1∈eR
  .rw[decide_eq_true hm] at a2 ⊢;clear hm;exact vG
  .rw[decide_eq_false hm] at a2 ⊢;clear hm;exact vG
theorem fw.byte{o:Nat}(h:fw w b o cap s)(aj:k<s.size):w.cell? ⟨b,o+k,none⟩=some (.int .u8 (s[k].toNat:Int)):=h.bytes k aj
theorem da(h:k<s.size):s.data.toList.drop k=s[k]::s.data.toList.drop (k+1):=by
 rw[List.drop_eq_getElem_cons (by simpa using h)];rfl
theorem rf(c:UInt8):pC c=true↔c.toNat=32\/c.toNat=9\/c.toNat=10\/c.toNat=13:=by
 simp only[pC,Bool.or_eq_true,beq_iff_eq,<-UInt8.toNat_inj];show ((c.toNat=32\/c.toNat=9)\/c.toNat=10)\/c.toNat=13↔_
 omega
theorem o9(c:UInt8):c=47↔c.toNat=47:=by rw[<-UInt8.toNat_inj];rfl
theorem x1(c:UInt8):c=10↔c.toNat=10:=by rw[<-UInt8.toNat_inj];rfl
theorem lH(h:pC c=true):aS false (c::l)=aS false l:=by rw[aS,if_pos h]
theorem nZ(h:pC c=false)(ax:¬(c=47/\l.head?=some 47)):aS false (c::l)=c::l:=by rw[aS,if_neg (by simp[h]),if_neg ax]
theorem yr(h:c≠10):aS true (c::l)=aS true l:=by rw[aS,if_neg h]
theorem EZ(h:c=47)(ax:l.head?=some 47):aS false (c::l)=aS true (c::l):=by
 subst h;have a:aS false (47::l)=aS true l:=by rw[aS,if_neg (by decide),if_pos ⟨rfl,ax⟩]
 exact a.trans (yr (by decide)).symm
theorem E1:aS true (10::l)=aS false (10::l):=by
 have a:aS true (10::l)=aS false l:=by rw[aS,if_pos rfl]
 exact a.trans (lH (by decide)).symm
theorem E0(b:Bool):aS b []=[]:=by cases b<;>rfl
theorem k4(s:ByteArray)(b o cap k:Nat)(w:World)(h:fw w b o cap s)(aj:k<=s.size) :
  Calls prog 100 #[.slice (some ⟨b,o,none⟩) s.size cap,.int .i64 k] w λe ab=>e=.returned (.int .i64 ((s.size:Int) - (aS false (s.data.toList.drop k)).length))/\w=ab:=by
 have H:=ae h;have U:=h.small;clear h;go_enter func100,ntmps100;go_wp2
 go_loop [1] (λi=>∃j:Nat,j<=s.size/\i=.int .i64 j/\aS false (s.data.toList.drop k)=aS false (s.data.toList.drop j)) (λi=>s.size - (intOf i).toNat)
 case atStart=>exact⟨k,aj,rfl,rfl⟩
 case round=>
  obtain⟨j,bi,rfl,g⟩:=hrel;have t:=ae g;clear g;by_cases ap:j<s.size
  .have hc:=H.byte ap;have a6:(0:Int)<=(j:Int):=ad;have cU:(j:Int)<(s.size:Int):=ad;by_cases aD:s[j].toNat=32
   .have F:(((s[j].toNat:Nat):Int) == 32)=true:=by simp[aD]
    have ag:=ae (t.trans ((congrArg _ (da ap)).trans (lH ((rf _).2 ad))));clear aD;go_wp2
    go_round
    case rel=>exact⟨j+1,ad,by go_num,ag.o⟩
    case measure=>exact aE
   by_cases bf:s[j].toNat=9
   .have cZ:(((s[j].toNat:Nat):Int) == 9)=true:=by simp[bf]
    have n:(((s[j].toNat:Nat):Int) == 32)=false:=by simp;omega
    have ag:=ae (t.trans ((congrArg _ (da ap)).trans (lH ((rf _).2 ad))));clear bf aD;go_wp2
    go_round
    case rel=>exact⟨j+1,ad,by go_num,ag.o⟩
    case measure=>exact aE
   by_cases c:s[j].toNat=10
   .have Fp:(((s[j].toNat:Nat):Int) == 10)=true:=by simp[c]
    have n:(((s[j].toNat:Nat):Int) == 32)=false:=by simp;omega
    have A:(((s[j].toNat:Nat):Int) == 9)=false:=by simp;omega
    have ag:=ae (t.trans ((congrArg _ (da ap)).trans (lH ((rf _).2 ad))));clear c aD bf;go_wp2
    go_round
    case rel=>exact⟨j+1,ad,by go_num,ag.o⟩
    case measure=>exact aE
   by_cases f:s[j].toNat=13
   .have E:(((s[j].toNat:Nat):Int) == 13)=true:=by simp[f]
    have n:(((s[j].toNat:Nat):Int) == 32)=false:=by simp;omega
    have A:(((s[j].toNat:Nat):Int) == 9)=false:=by simp;omega
    have x:(((s[j].toNat:Nat):Int) == 10)=false:=by simp;omega
    have ag:=ae (t.trans ((congrArg _ (da ap)).trans (lH ((rf _).2 ad))));clear f aD bf c;go_wp2
    go_round
    case rel=>exact⟨j+1,ad,by go_num,ag.o⟩
    case measure=>exact aE
   have n:(((s[j].toNat:Nat):Int) == 32)=false:=by simp;omega
   have A:(((s[j].toNat:Nat):Int) == 9)=false:=by simp;omega
   have x:(((s[j].toNat:Nat):Int) == 10)=false:=by simp;omega
   have D:(((s[j].toNat:Nat):Int) == 13)=false:=by simp;omega
   have ns:pC s[j]=false:=by
    cases hw:pC s[j] with
    | false=>rfl
    | true=>have:=(rf _).1 hw;omega
   have bb:=ae ns;clear ns aD bf c f;have u:∀l:List UInt8,l=s.data.toList.drop j->((s.size:Int) - l.length)=j:=λl hl=>by subst hl;simp;omega
   by_cases ax:j+1<s.size
   .have cf:=H.byte ax;have cy:((j+1:Nat):Int)=(j:Int)+1:=ad;have dv:decide ((j:Int)+1<(s.size:Int))=true:=by simp;omega
    by_cases a:s[j].toNat=47
    .have y:(((s[j].toNat:Nat):Int) == 47)=true:=by simp[a]
     by_cases d:s[j+1].toNat=47
     .have z:(((s[j+1].toNat:Nat):Int) == 47)=true:=by simp[d]
      have bW:=ae (show aS false (s.data.toList.drop k)=aS true (s.data.toList.drop j) by
       rw[t.o,da ap];refine EZ ((o9 _).2 a) ?_;rw[da ax,List.head?_cons,(o9 _).2 d])
      have ca:=ae (show s[j].toNat≠10 by omega);clear a d;go_wp2
      go_loop [1] (λi=>∃m:Nat,j<=m/\m<=s.size/\i=.int .i64 m/\aS false (s.data.toList.drop k)=aS true (s.data.toList.drop m)) (λi=>s.size - (intOf i).toNat)
      case atStart=>exact⟨j,Lz _,bi,rfl,bW.o⟩
      case round=>
       obtain⟨m,B,hm,rfl,P⟩:=hrel;have eV:=ae P;clear P;by_cases bY:m<s.size
       .have v:=H.byte bY;have b1:(0:Int)<=(m:Int):=ad;have cn:(m:Int)<(s.size:Int):=ad;by_cases c:s[m].toNat=10
        .have Fp:(((s[m].toNat:Nat):Int) != 10)=false:=by simp[c]
         have C:m≠j:=by
          rintro rfl;exact ca.o c
         have bj:=ae (show aS false (s.data.toList.drop k)=aS false (s.data.toList.drop m) by rw[eV.o,da bY,(x1 _).2 c];exact E1);clear c;go_wp2
         go_round
         case rel=>exact⟨m,hm,rfl,bj.o⟩
         case measure=>exact aE
        .have Fp:(((s[m].toNat:Nat):Int) != 10)=true:=by simp;omega
         have bj:=ae (show aS false (s.data.toList.drop k)=aS true (s.data.toList.drop (m+1)) by rw[eV.o,da bY];exact yr (λh=>c ((x1 _).1 h)));clear c;go_wp2
         go_round
         case rel=>exact⟨m+1,ad,ad,by go_num,bj.o⟩
         case measure=>exact aE
       .have q:m=s.size:=ad;have bj:=ae (show aS false (s.data.toList.drop k)=aS false (s.data.toList.drop m) by
         rw[eV.o,q,Mc (by simp)];rfl)
        clear q;go_wp2
        go_round
        case rel=>exact⟨m,hm,rfl,bj.o⟩
        case measure=>exact aE
     .have z:(((s[j+1].toNat:Nat):Int) == 47)=false:=by simp;omega
      have a2:=ae (u _ (t.trans ((congrArg _ (da ap)).trans ((nZ bb.o (by
       rintro⟨_,h⟩;rw[da ax,List.head?_cons] at h;injection h with h;exact d ((o9 _).1 h))).trans (da ap).symm))))
      clear a d u;go_wp2;go_ret;exact⟨ret_int a2.symm,rfl⟩
    .have y:(((s[j].toNat:Nat):Int) == 47)=false:=by simp;omega
     have a2:=ae (u _ (t.trans ((congrArg _ (da ap)).trans ((nZ bb.o (λh=>a ((o9 _).1 h.1))).trans (da ap).symm))));clear a u;go_wp2;go_ret;exact⟨ret_int a2.symm,rfl⟩
   .have dv:decide ((j:Int)+1<(s.size:Int))=false:=by simp;omega
    have a2:=ae (u _ (t.trans ((congrArg _ (da ap)).trans ((nZ bb.o (by
     rintro⟨_,h⟩;rw[Mc (by simp;omega)] at h;cases h)).trans (da ap).symm))))
    clear ax u;go_wp2;go_ret;exact⟨ret_int a2.symm,rfl⟩
  .have r:j=s.size:=ad;have a2:=ae (show (s.size:Int) - (aS false (s.data.toList.drop k)).length=s.size by rw[t.o,r,Mc (by simp)];simp[E0]);subst r;go_wp2;go_ret;exact⟨ret_int a2.symm,rfl⟩
end Go.Proofs.YtflecliffjbleaaGreat
