/- Part 6 of the proof. No condition of its own. -/
import Derived.Test.YtajlmkkidmjgoaaGreatDoorQ03
namespace Go.Proofs.YtajlmkkidmjgoaaGreatDoor
open Go.RowKit Go.Proofs.Tryz
set_option maxRecDepth 1000000
set_option maxHeartbeats 25600000
set_option linter.unusedVariables false
variable{b:Bool}{d:D}{e x:Int}{l m:List D}{cs xs:List Value}{X:List bJ}{T:List cQ}{B base c k n sz:Nat}{A:IP}{α:Type}{ab:World}
section
attribute [local go_sem ↓] gN gO
def within(x n:Int):Int:=x % n
theorem xM{n:Int}(h:0<n):(x.tmod n+n).tmod n=within x n:=by
 unfold within;have ac:=Int.emod_nonneg x (show n≠0 by omega);have J:=Int.emod_lt_of_pos x h;have key:∀y:Int,0<=y->y.tmod n=y % n:=λy a4=>Int.tmod_eq_emod_of_nonneg a4;rcases Int.lt_or_le x 0 with hx|hx
 .have e1:x.tmod n = -((-x) % n):=by
   have:=key (-x) ad;rw[Int.neg_tmod] at this;omega
  have aR:=Int.emod_nonneg (-x) (show n≠0 by omega);have bv:=Int.emod_lt_of_pos (-x) h;rw[e1,key _ ad];rw[Int.add_emod_right];have ct:(-((-x) % n)) % n=x % n:=by
   have Q:-((-x) % n)=x+n*((-x) / n):=by
    have:=Int.emod_add_mul_ediv (-x) n;omega
   rw[Q,Int.add_mul_emod_self_left]
  exact ct
 .rw[key x hx,key _ ad,Int.add_emod_right,Int.emod_emod_of_dvd _ (Int.dvd_refl n)]
theorem rV{n:Int}(h:0<n):0<=within x n/\within x n<n:=⟨Int.emod_nonneg x ad,Int.emod_lt_of_pos x h⟩
theorem cJ.GL{w:World}{l:List bJ}(h:cJ (EF iM) 3 w B A n l)(ap:k<n):
  ∃b o m,A=some ⟨b,o,none⟩/\b<B/\l[k]?=some m/\w.cell? ⟨b,o+k*3,none⟩=some (.string m.name)/\w.cell? ⟨b,o+k*3+1,none⟩=some (.bool m.re)/\w.cell? ⟨b,o+k*3+2,none⟩=some (.int .i64 m.size):=by
 obtain⟨b,o,m,bj,O,hm,_,hc⟩:=h.FN ap;exact⟨b,o,m,bj,O,hm,hc 0 _ rfl,hc 1 _ rfl,hc 2 _ rfl⟩
theorem cJ.hold{w:World}{l:List cQ}(h:cJ (EF ca) 2 w B A n l)(ap:k<n):
  ∃b o m,A=some ⟨b,o,none⟩/\b<B/\l[k]?=some m/\w.cell? ⟨b,o+k*2,none⟩=some (.int .i64 m.owner)/\w.cell? ⟨b,o+k*2+1,none⟩=some (.int .i64 m.depth):=by
 obtain⟨b,o,m,bj,O,hm,_,hc⟩:=h.FN ap;exact⟨b,o,m,bj,O,hm,hc 0 _ rfl,hc 1 _ rfl⟩
theorem Bo(l:List bJ):∀x∈l,(iM x).length=3:=λ_ _=>rfl
theorem hr(l:List cQ):∀x∈l,(ca x).length=2:=λ_ _=>rfl
theorem BD(l:List bJ):∀x∈l,∀u∈iM x,u.oneCell'=true:=λx _ u hu=>by
 simp only[iM,Iq,List.not_mem_nil,or_false] at hu;rcases hu with rfl|rfl|rfl<;>rfl
theorem xp(l:List cQ):∀x∈l,∀u∈ca x,u.oneCell'=true:=λx _ u hu=>by
 simp only[ca,Iq,List.not_mem_nil,or_false] at hu;rcases hu with rfl|rfl<;>rfl
theorem BC(l:List Int):∀x∈l,∀u∈cD x,u.oneCell'=true:=λx _ u hu=>by
 simp only[cD,Iq,List.not_mem_nil,or_false] at hu;subst hu;rfl
theorem vT:b2 prog 42 137 (.agg #[.int .i64 0,.int .i64 0]) 2 16:=b2.mk' Tryz.underlying42 (by kernel_rfl) rfl ad
theorem lp:b2 prog 24 97 (.agg #[.string ⟨#[]⟩,.bool false,.int .i64 0]) 3 32:=b2.mk' Tryz.underlying24 (by kernel_rfl) rfl ad
theorem within_any(x n:Int)(hn:0<n)(O:n<=4611686018427387904)(w:World) :
  Calls prog 7 #[.int .i64 x,.int .i64 n] w λe ab=>e=.returned (.int .i64 (within x n))/\w=ab:=by
 have bi:(n == 0)=false:=by simp;omega
 go_enter func7,ntmps7;go_wp2;go_ret;refine⟨ret_int ?_,rfl⟩;have ac:=Int.lt_tmod_of_pos x hn;have J:=Int.tmod_lt_of_pos x hn;rw[<-xM hn];congr 1
 unfold RowKit.wrap64;omega
theorem l1(A:IP)(n c:Nat)(X:List bJ)(w:World)(h:cJ (EF iM) 3 w w.heap.size A n X)(hX:rY X) :
  Calls prog 68 #[.slice A n c] w λe ab=>e=.returned (.int .i64 (elems X))/\Below w.heap.size w ab:=by
 have hl:=h.1;have hn:=hX.1;go_enter func68,ntmps68;go_wp2;go_loopw [3,8] (λs i wr=>∃k:Nat,k<=n/\i=.int .i64 k/\s=.int .i64 (elems (X.take k))/\Below w.heap.size w wr) (λ_ i _=>n - (intOf i).toNat)
 case atStart=>exact⟨0,Ix _,rfl,rfl,Below.refl _ _⟩
 case round=>
  obtain⟨k,ap,rfl,rfl,O⟩:=hrel;by_cases al:k<n
  .obtain⟨b,o,m,rfl,ao,hm,c0,c1,c2⟩:=(h.eQ O).GL al;have I:=hX.q6 k;have bo:=hX.at_ hm;have bT:=O.size;have bs:=ae (show elems (X.take (k+1))=elems (X.take k)+max m.size 1 by rw[a0 hm,hO];rfl);clear hm;go_wp2;go_roundw
   case rel=>exact⟨k+1,ad,by go_num,by rw[bs.o],((O.alloc bT _).alloc (by simp;omega) _)⟩
   case measure=>exact aF
  .go_wp2;go_ret;exact⟨ret_int (by first|rfl|rw[Ih ad]),O⟩
theorem AJ(A:IP)(n c:Nat)(X:List bJ)(m:Int)(w:World)(h:cJ (EF iM) 3 w w.heap.size A n X)(hX:rY X)(aG:n<=c) :
  Calls prog 110 #[.slice A n c,.int .i64 m] w λe ab=>e=.returned (.int .i64 (gm X m))/\Below w.heap.size w ab:=by
 have hl:=h.1;by_cases hm:m<0
 .have a7:=ae (show gm X m = -1 from oC (.inl hm));clear h hX hl;go_enter func110,ntmps110;exact tx
 by_cases az:(n:Int)<=m
 .have a7:=ae (show gm X m = -1 from oC (.inr ad));clear h hX hl;go_enter func110,ntmps110;exact tx
 obtain⟨k,rfl⟩:=Ic (show 0<=m by omega);have a7:=ae (show gm X k=elems (X.take k) from p9 ad);have F:cJ (EF iM) 3 w w.heap.size A k (X.take k):=by
  refine⟨by simp;omega,λap=>?_⟩;obtain⟨b,o,bj,O,hc⟩:=h.2 ad;refine⟨b,o,bj,O,λj x hx=>hc j x ?_⟩;rw[List.getElem?_take] at hx;split at hx
  .exact hx
  .cases hx
 have ap:k<n:=ad;have a:=hX.take k;clear h hX hl hm az;go_enter func110,ntmps110;go_wp2_with(fail);refine(l1 A k k _ w F a).mono ?_;rintro e ab ⟨rfl,O⟩;go_wp2;go_ret;exact⟨ret_int (by rw[a7.o]),O⟩
theorem sE(A:IP)(n c:Nat)(X:List bJ)(e:Int)(w:World)(h:cJ (EF iM) 3 w w.heap.size A n X)(hX:rY X)(he:e<=9223372036854775807) :
  Calls prog 111 #[.slice A n c,.int .i64 e] w λr ab=>r=.returned (.int .i64 (bU X e))/\Below w.heap.size w ab:=by
 have hl:=h.1;have hn:=hX.1;by_cases a:e<0
 .have a7:=ae (show bU X e = -1 from kh a);clear h hX hl;go_enter func111,ntmps111;exact tx
 go_enter func111,ntmps111;go_wp2;go_loopw [1,11] (λs i wr=>∃k:Nat,k<=n/\i=.int .i64 k/\s=.int .i64 (e - elems (X.take k))/\elems (X.take k)<=e/\Below w.heap.size w wr) (λ_ i _=>n - (intOf i).toNat)
 case atStart=>exact⟨0,Ix _,rfl,Bj (by simp[elems]),by simp[elems];omega,Below.refl _ _⟩
 case round=>
  obtain⟨k,ap,rfl,rfl,hle,O⟩:=hrel;by_cases al:k<n
  .obtain⟨b,o,m,rfl,ao,hm,c0,c1,c2⟩:=(h.eQ O).GL al;have I:=hX.q6 k;have bo:=hX.at_ hm;have bT:=O.size;have bs:=ae (show elems (X.take (k+1))=elems (X.take k)+max m.size 1 by rw[a0 hm,hO];rfl);have eV:=ae hm;clear hm;by_cases U:e - elems (X.take k)<max m.size 1
   .have a8:=ae (show bU X e=k from kf eV.o ad hle (by unfold bJ.num;omega));go_wp2;go_ret;exact⟨ret_int (by rw[a8.o]),((O.alloc bT _).alloc (by simp;omega) _)⟩
   .go_wp2;go_roundw
    case rel=>exact⟨k+1,ad,by go_num,Bj (by rw[bs.o];omega),by rw[bs.o];omega,(((O.alloc bT _).alloc (by simp;omega) _).alloc (by simp;omega) _)⟩
    case measure=>exact aF
  .have a8:=ae (show bU X e = -1 from ki (by rwa [Ih ad] at hle));go_wp2;go_ret;exact⟨ret_int (by rw[a8.o]),O⟩
end
def a7:VE->D
 | .num n=>.st [.i 1,.i n,.s ⟨#[]⟩,.sl []]
 | .gI s=>.st [.i 2,.i 0,.s s,.sl []]
 | .loc k=>.st [.i 18,.i k,.s ⟨#[]⟩,.sl []]
 | .iq k=>.st [.i 19,.i k,.s ⟨#[]⟩,.sl []]
 | .un op x=>.st [.i op,.i 0,.s ⟨#[]⟩,.sl [a7 x]]
 | .bin op x y=>.st [.i op,.i 0,.s ⟨#[]⟩,.sl [a7 x,a7 y]]
def jl:D:=.st [.i 0,.i 0,.s ⟨#[]⟩,.sl []]
def nP:Option VE->D
 | none=>jl
 | some x=>a7 x
def VE.aZ:VE->Int
 | .num _=>1
 | .gI _=>2
 | .loc _=>18
 | .iq _=>19
 | .un op _=>op
 | .bin op _ _=>op
def VE.numOf:VE->Int
 | .num n=>n
 | .loc k=>k
 | .iq k=>k
 | _=>0
def VE.bg:VE->ByteArray
 | .gI s=>s
 | _=>⟨#[]⟩
def VE.args:VE->List VE
 | .un _ x=>[x]
 | .bin _ x y=>[x,y]
 | _=>[]
theorem v5(x:VE):a7 x=.st [.i x.aZ,.i x.numOf,.s x.bg,.sl (x.args.map a7)]:=by
 cases x<;>simp[a7,VE.aZ,VE.numOf,VE.bg,VE.args]
theorem cY(x:VE):(a7 x).sz=4:=by rw[v5];rfl
section
variable {w:World} {P:Nat->Prop}
theorem aM:D.aO w P [] cs↔cs=[]:=by simp only[D.aO]
theorem a2{n:Int}:D.aO w P (.i n::l) cs↔∃y,cs=.int .i64 n::y/\D.aO w P l y:=by
 exact Az
theorem eS{n:Bool}:D.aO w P (.b n::l) cs↔∃y,cs=.bool n::y/\D.aO w P l y:=by
 exact Az
theorem b9{n:ByteArray}:D.aO w P (.s n::l) cs↔∃y,cs=.string n::y/\D.aO w P l y:=by
 exact Az
theorem aA:D.aO w P (.sl m::l) cs↔∃A n c y,cs=.slice A n c::y/\n<=c/\Sl w P A n m/\D.aO w P l y:=by
 constructor
 .intro h;simp only[D.aO] at h;obtain⟨x,y,rfl,hx,h⟩:=h;obtain⟨A,c,n,rfl,hc,hs⟩:=D.rH.1 hx;exact⟨A,n,c,y,rfl,hc,hs,h⟩
 .rintro⟨A,n,c,y,rfl,hc,hs,h⟩;simp only[D.aO];exact⟨_,y,rfl,D.rH.2 ⟨A,c,n,rfl,hc,hs⟩,h⟩
theorem bw:(D.st m).rep w P cs↔D.aO w P m cs:=by simp only[D.rep]
theorem aW{x:VE}:(a7 x).rep w P cs↔∃A n c,cs=[.int .i64 x.aZ,.int .i64 x.numOf,.string x.bg,.slice A n c]/\n<=c/\Sl w P A n (x.args.map a7):=by
 rw[v5,bw,a2];constructor
 .rintro⟨y,rfl,h⟩;obtain⟨cj,rfl,ac⟩:=a2.1 h;obtain⟨bp,rfl,J⟩:=b9.1 ac;obtain⟨A,n,c,aJ,rfl,hc,hs,aR⟩:=aA.1 J;exact vL
 .rintro⟨A,n,c,rfl,hc,hs⟩;exact⟨_,rfl,a2.2 ⟨_,rfl,b9.2 ⟨_,rfl,aA.2 ⟨A,n,c,[],rfl,hc,hs,aM.2 rfl⟩⟩⟩⟩
theorem eP:jl.rep w P cs↔∃A c,cs=[.int .i64 0,.int .i64 0,.string ⟨#[]⟩,.slice A 0 c]:=by
 unfold jl;rw[bw,a2];constructor
 .rintro⟨y,rfl,h⟩;obtain⟨cj,rfl,ac⟩:=a2.1 h;obtain⟨bp,rfl,J⟩:=b9.1 ac;obtain⟨A,n,c,aJ,rfl,hc,hs,aR⟩:=aA.1 J;rw[aM] at aR;subst aR;obtain rfl:n=0:=hs.1.symm;exact⟨A,c,rfl⟩
 .rintro⟨A,c,rfl⟩;exact⟨_,rfl,a2.2 ⟨_,rfl,b9.2 ⟨_,rfl,aA.2 ⟨A,0,c,[],rfl,Ix _,Sl.bH A,aM.2 rfl⟩⟩⟩⟩
theorem Sl.BB(h:Sl w P A 1 [d])(bi:d.sz=4):∃b o bU Z ay F,A=some ⟨b,o,none⟩/\P b/\d.rep w P [bU,Z,ay,F]/\
  w.cell? ⟨b,o,none⟩=some bU/\w.cell? ⟨b,o+1,none⟩=some Z/\w.cell? ⟨b,o+2,none⟩=some ay/\w.cell? ⟨b,o+3,none⟩=some F:=by
 obtain⟨b,o,a,cs,bj,O,hd,aY,hl,hc⟩:=h.at_ (z:=4) (k:=0) (λe he=>by simp at he;subst he;exact bi) ad;simp at hd;subst hd
 match cs,hl with
 | [bU,Z,ay,F],_=>
  have h0:=hc 0 bU rfl;have ac:=hc 1 Z rfl;have J:=hc 2 ay rfl;have aR:=hc 3 F rfl;simp only[Nat.zero_mul,Ij] at h0 ac J aR;exact⟨b,o,bU,Z,ay,F,bj,O,aY,h0,ac,J,aR⟩
theorem Sl.GY{e:D}(h:Sl w P A 2 [d,e])(bi:d.sz=4)(bu:e.sz=4):∃b o bU Z ay F b1 cj bp aJ,A=some ⟨b,o,none⟩/\P b/\d.rep w P [bU,Z,ay,F]/\e.rep w P [b1,cj,bp,aJ]/\
  w.cell? ⟨b,o,none⟩=some bU/\w.cell? ⟨b,o+1,none⟩=some Z/\w.cell? ⟨b,o+2,none⟩=some ay/\w.cell? ⟨b,o+3,none⟩=some F/\
  w.cell? ⟨b,o+4,none⟩=some b1/\w.cell? ⟨b,o+5,none⟩=some cj/\w.cell? ⟨b,o+6,none⟩=some bp/\w.cell? ⟨b,o+7,none⟩=some aJ:=by
 have s:∀x∈[d,e],x.sz=4:=λx hx=>by
  simp at hx;rcases hx with rfl|rfl<;>assumption
 obtain⟨b,o,a,cs,bj,O,hd,aY,hl,hc⟩:=h.at_ (z:=4) (k:=0) s ad;obtain⟨K,V,l,f,c,_,he,ak,T,aZ⟩:=h.at_ (z:=4) (k:=1) s ad;rw[bj] at c;injection c with c;injection c with aX dk;subst aX dk;simp at hd he;subst hd he
 match cs,hl,f,T with
 | [bU,Z,ay,F],_,[b1,cj,bp,aJ],_=>
  have h0:=hc 0 bU rfl;have ac:=hc 1 Z rfl;have J:=hc 2 ay rfl;have aR:=hc 3 F rfl;have di:=aZ 0 b1 rfl;have cm:=aZ 1 cj rfl;have bZ:=aZ 2 bp rfl;have cC:=aZ 3 aJ rfl;simp only[Nat.zero_mul,Ij,Nat.one_mul,Nat.add_assoc,Nat.reduceAdd] at h0 ac J aR di cm bZ cC;exact⟨b,o,bU,Z,ay,F,b1,cj,bp,aJ,bj,O,aY,ak,h0,ac,J,aR,di,cm,bZ,cC⟩
theorem j6:∀(x:VE) (cs:List Value),(a7 x).rep w P cs->x.rep w P cs
 | .num n,cs,h=>by
  obtain⟨A,n,c,rfl,_,hs⟩:=aW.1 h;obtain rfl:n=0:=hs.1.symm
  exact⟨_,_,_,rfl⟩
 | .gI s,cs,h=>by
  obtain⟨A,n,c,rfl,_,hs⟩:=aW.1 h;obtain rfl:n=0:=hs.1.symm
  exact⟨_,_,_,rfl⟩
 | .loc k,cs,h=>by
  obtain⟨A,n,c,rfl,_,hs⟩:=aW.1 h;obtain rfl:n=0:=hs.1.symm
  exact⟨_,_,_,rfl⟩
 | .iq k,cs,h=>by
  obtain⟨A,n,c,rfl,_,hs⟩:=aW.1 h;obtain rfl:n=0:=hs.1.symm
  exact⟨_,_,_,rfl⟩
 | .un op x,cs,h=>by
  obtain⟨A,n,c,rfl,_,hs⟩:=aW.1 h;obtain rfl:n=1:=hs.1.symm;obtain⟨b,o,bU,Z,ay,F,rfl,O,aY,c0,c1,c2,c3⟩:=Sl.BB hs (cY x)
  exact⟨_,_,b,o,c,bU,Z,ay,F,rfl,O,j6 x _ aY,c0,c1,c2,c3⟩
 | .bin op x y,cs,h=>by
  obtain⟨A,n,c,rfl,_,hs⟩:=aW.1 h;obtain rfl:n=2:=hs.1.symm;obtain⟨b,o,bU,Z,ay,F,b1,cj,bp,aJ,rfl,O,aY,ak,c0,c1,c2,c3,d0,d1,d2,d3⟩:=Sl.GY hs (cY x) (cY y);exact⟨_,_,b,o,c,bU,Z,ay,F,b1,cj,bp,aJ,rfl,O,j6 x _ aY,j6 y _ ak,c0,c1,c2,c3,d0,d1,d2,d3⟩
end
def j9(r:eC):D:=.st [.s r.name,.sl (r.idx.toList.map a7)]
def fJ:D:=.st [.s ⟨#[]⟩,.sl []]
def ep:cW->D
 | .mx r=>.st [.b true,j9 r,jl]
 | .ex e=>.st [.b false,fJ,a7 e]
def gi(kind:Int)(name:ByteArray)(e r:D)(args th el:List D):D:=.st [.i kind,.s name,e,r,.sl args,.sl th,.sl el]
def cL:ak->List D
 | .nil=>[]
 | .set v n e rest=>gi (if v then 1 else 2) n (a7 e) fJ [] [] []::cL rest
 | .call g n aJ rest=>gi (if g then 4 else 3) n jl fJ (aJ.map ep) [] []::cL rest
 | .lock u r rest=>gi (if u then 6 else 5) ⟨#[]⟩ jl (j9 r) [] [] []::cL rest
 | .ite e th el rest=>gi 7 ⟨#[]⟩ (a7 e) fJ [] (cL th) (cL el)::cL rest
 | .fY e th rest=>gi 8 ⟨#[]⟩ (a7 e) fJ [] (cL th) []::cL rest
 | .ret rest=>gi 9 ⟨#[]⟩ jl fJ [] [] []::cL rest
def ch(p:ByteArray×Bool):D:=.st [.s p.1,.b p.2]
def c8(f:aE):D:=.st [.s f.name,.sl (f.params.map ch),.sl (cL f.body)]
def hR(g:ByteArray×Int):D:=.st [.s g.1,.i g.2]
def er(m:bJ):D:=.st [.s m.name,.b m.re,.i m.size]
def c9(p:bK):D:=.st [.b p.param,.i p.index,.sl (p.at_.toList.map a7)]
def dN(x:az):D:=.st [.i x.op,.i x.target,.b x.dw,nP x.expr,c9 x.place,.sl (x.ints.map a7),.sl (x.places.map c9)]
def fQ(p:c7):D:=.st [.s p.name,.i p.ints,.i p.aw,.i p.locals,.sl (p.code.map dN)]
def uc(u:ax):D:=.st [.sl (u.globals.map D.i),.sl (u.af.map er),.sl (u.procs.map fQ),.i u.main]
def gb(f:ao):D:=.st [.i f.proc,.i f.pc,.sl (f.ints.map D.i),.sl (f.aw.map D.i)]
def ly(t:List ao):D:=.st [.sl (t.map gb)]
def l4(h:cQ):D:=.st [.i h.owner,.i h.depth]
def FR(s:ah):D:=.st [.sl (s.globals.map D.i),.sl (s.table.map l4),.sl (s.threads.map ly),.i s.fault]
theorem Sl.Gn{enc:α->D}{f:α->List Value}(aA:∀(w:World) (P:Nat->Prop) (x:α) (cs:List Value),(enc x).rep w P cs->cs=f x)(bi:∀x,(enc x).sz=sz)
  {w:World} {A:IP} {n:Nat} {l:List α} (h:Sl w (av w) A n (l.map enc)):cJ (EF f) sz w w.heap.size A n l:=by
 have hl:l.length=n:=by rw[<-h.1,Ib]
 refine⟨hl,λhn=>?_⟩;obtain⟨b,o,bj,O⟩:=h.some_ hn;refine⟨b,o,bj,O,λk x hx=>?_⟩;have ap:k<n:=by have:=(List.getElem?_eq_some_iff.1 hx).1;omega
 obtain⟨K,V,y,cs,c,_,a4,aY,a2,hc⟩:=h.gH bi ap;rw[bj] at c;injection c with c;injection c with ac J;subst ac J;rw[hx] at a4;injection a4 with a4;subst a4;exact⟨cs,aA _ _ _ _ aY,a2,hc⟩
theorem mr{α:Type}{enc:α->D}{f:α->List Value}{w:World}{P:Nat->Prop}(aA:∀x,(enc x).rep w P (f x)):∀l:List α,D.aO w P (l.map enc) (l.flatMap f)
 | []=>by simp only[Iy,D.aO,List.flatMap_nil]
 | x::l=>by
  rw[Ie,Iv];simp only[D.aO];exact⟨_,_,rfl,aA x,mr aA l⟩
theorem cJ.sl{enc:α->D}{f:α->List Value}{w:World}{P:Nat->Prop}{l:List α}(aA:∀x,(enc x).rep w P (f x))(hs:∀x,(f x).length=sz)(h0:0<sz)
  (h:cJ (EF f) sz w B A n l) (U:∀b,b<B->P b):Sl w P A n (l.map enc):=by
 refine⟨by rw[Ib,h.1],λhn=>?_⟩;obtain⟨b,o,bj,O,hc⟩:=h.2 hn;refine⟨b,o,l.flatMap f,bj,U b O,mr aA l,λj u a1=>?_⟩;have bf:=(List.getElem?_eq_some_iff.1 a1).1;rw[fU f sz l λx _=>hs x] at bf;have Q:j / sz<l.length:=by rw[Nat.div_lt_iff_lt_mul h0];exact bf
 have hx:l[j / sz]?=some (l[j / sz]'Q):=List.getElem?_eq_getElem Q;have d:=Nat.mod_lt j h0;have a:j / sz*sz+j % sz=j:=Nat.div_add_mod' j sz;have b7:=fk f sz l (λx _=>hs x) _ _ hx (j % sz) d;rw[a,a1] at b7;obtain⟨cs,he,_,c⟩:=hc _ _ hx;rw[EF] at he;subst he;have:=c _ _ b7.symm
 rwa [Nat.add_assoc,a] at this
theorem wy{w:World}{P:Nat->Prop}:(D.i x).rep w P cs↔cs=cD x:=by simp only[D.rep,cD]
theorem Sl.ints{w:World}{l:List Int}(h:Sl w (av w) A n (l.map D.i)):cJ (EF cD) 1 w w.heap.size A n l:=Sl.Gn (enc:=D.i) (f:=cD) (λ_ _ _ _=>wy.1) (λ_=>rfl) h
theorem cJ.ints{w:World}{P:Nat->Prop}{l:List Int}(h:cJ (EF cD) 1 w B A n l)(U:∀b,b<B->P b):Sl w P A n (l.map D.i):=cJ.sl (enc:=D.i) (f:=cD) (λ_=>wy.2 rfl) (λ_=>rfl) (by decide) h U
theorem eN{w:World}{P:Nat->Prop}{m:bJ}:(er m).rep w P cs↔cs=iM m:=by
 unfold er;rw[bw,b9];constructor
 .rintro⟨y,rfl,h⟩;rw[eS] at h;exact x6
 .rintro rfl;exact⟨_,rfl,eS.2 ⟨_,rfl,a2.2 ⟨_,rfl,aM.2 rfl⟩⟩⟩
theorem sS{w:World}{P:Nat->Prop}{m:cQ}:(l4 m).rep w P cs↔cs=ca m:=by
 unfold l4;rw[bw,a2];exact Ax
theorem Sl.uA{w:World}{l:List bJ}(h:Sl w (av w) A n (l.map er)):cJ (EF iM) 3 w w.heap.size A n l:=Sl.Gn (enc:=er) (f:=iM) (λ_ _ _ _=>eN.1) (λ_=>rfl) h
theorem cJ.uA{w:World}{P:Nat->Prop}{l:List bJ}(h:cJ (EF iM) 3 w B A n l)(U:∀b,b<B->P b):Sl w P A n (l.map er):=cJ.sl (enc:=er) (f:=iM) (λ_=>eN.2 rfl) (λ_=>rfl) (by decide) h U
theorem Sl.holds{w:World}{l:List cQ}(h:Sl w (av w) A n (l.map l4)):cJ (EF ca) 2 w w.heap.size A n l:=Sl.Gn (enc:=l4) (f:=ca) (λ_ _ _ _=>sS.1) (λ_=>rfl) h
theorem cJ.holds{w:World}{P:Nat->Prop}{l:List cQ}(h:cJ (EF ca) 2 w B A n l)(U:∀b,b<B->P b):Sl w P A n (l.map l4):=cJ.sl (enc:=l4) (f:=ca) (λ_=>sS.2 rfl) (λ_=>rfl) (by decide) h U
theorem Sl.wg{w:World}{P:Nat->Prop}{l:List Int}(h:Sl w P A n (l.map .i))(ap:k<n):
  ∃b o x,A=some ⟨b,o,none⟩/\P b/\l[k]?=some x/\w.cell? ⟨b,o+k,none⟩=some (.int .i64 x):=by
 obtain⟨b,o,x,cs,bj,O,hx,aY,hl,hc⟩:=Sl.gH (z:=1) h (λ_=>rfl) ap;simp only[D.rep] at aY;subst aY;exact⟨b,o,x,bj,O,hx,by have:=hc 0 _ rfl;simpa using this⟩
theorem sameInts_any(A A2:IP)(n c cd c2:Nat)(S T:List Int)(w:World)(hs:Sl w (av w) A n (S.map .i))(ht:Sl w (av w) A2 cd (T.map .i))(hn:n<=140737488355328) :
  Calls prog 20 #[.slice A n c,.slice A2 cd c2] w λr ab=>r=.returned (.bool (decide (S=T)))/\Below w.heap.size w ab:=by
 have hl:S.length=n:=by have:=hs.1;simpa using this
 have bS:T.length=cd:=by have:=ht.1;simpa using this
 by_cases aZ:n=cd
 case neg=>
  have a8:=ae (show decide (S=T)=false from decide_eq_false (λh=>aZ (by rw[<-hl,<-bS,h])));have f:(n != cd)=true:=by simpa using aZ
  have e:((n:Int) != (cd:Int))=true:=by simp;omega
  clear hl bS aZ;go_enter func20,ntmps20;go_wp2;go_ret;exact⟨ret_bool (by rw[a8.o]),Below.refl _ _⟩
 subst aZ;obtain⟨bL,P⟩:=aN hl bS;clear hl bS;have L:((n:Int) != (n:Int))=false:=by simp
 go_enter func20,ntmps20;go_wp2;go_loopw [5] (λi wr=>∃k:Nat,k<=n/\i=.int .i64 k/\(∀j,j<k->S[j]?=T[j]?)/\Below w.heap.size w wr) (λi _=>n - (intOf i).toNat)
 case atStart=>exact⟨0,Ix _,rfl,λj a1=>absurd a1 ad,Below.refl _ _⟩
 case round=>
  obtain⟨k,ap,rfl,ct,O⟩:=hrel;have ah:=ae ct;clear ct;by_cases al:k<n
  .obtain⟨b,o,x,rfl,ao,hx,c0⟩:=(hs.on O).wg al;obtain⟨K,V,d,rfl,l,g,d0⟩:=(ht.on O).wg al;have bK:(0:Int)<=(k:Int):=ad;have b7:(k:Int)<(n:Int):=ad;by_cases hd:x=d
   .have aV:=ae (show S[k]?=T[k]? by rw[hx,g,hd]);have z:(x != d)=false:=by simp[hd]
    exact DV
   .have a8:=ae (show decide (S=T)=false from decide_eq_false (λh=>by
     subst h;rw[hx] at g;injection g with g;exact hd g))
    have z:(x != d)=true:=by simp[hd]
    exact x4
  .obtain rfl:k=n:=ad;exact DT
theorem xa(A:IP)(n c:Nat)(S:List Int)(bU:Int)(w:World)(hs:Sl w (av w) A n (S.map .i))(hn:n<=140737488355328) :
  Calls prog 57 #[.slice A n c,.int .i64 bU] w λr ab=>r=.returned (.bool (decide (bU∈S)))/\Below w.heap.size w ab:=by
 have hl:S.length=n:=by have:=hs.1;simpa using this
 have bL:=ae hl;clear hl;go_enter func57,ntmps57;go_wp2;go_loopw [5] (λi wr=>∃k:Nat,k<=n/\i=.int .i64 k/\(∀j,j<k->S[j]?≠some bU)/\Below w.heap.size w wr) (λi _=>n - (intOf i).toNat)
 case atStart=>exact⟨0,Ix _,rfl,λj a1=>absurd a1 ad,Below.refl _ _⟩
 case round=>
  obtain⟨k,ap,rfl,ct,O⟩:=hrel;have ah:=ae ct;clear ct;by_cases al:k<n
  .obtain⟨b,o,x,rfl,ao,hx,c0⟩:=(hs.on O).wg al;have bK:(0:Int)<=(k:Int):=ad;have b7:(k:Int)<(n:Int):=ad;by_cases hd:x=bU
   .have a8:=ae (show decide (bU∈S)=true from decide_eq_true (hd▸Ia hx));have z:(x == bU)=true:=by simp[hd]
    clear hx hd;exact vI
   .have aV:=ae (show S[k]?≠some bU by rw[hx];intro h;injection h with h;exact hd h);have z:(x == bU)=false:=by simp[hd]
    clear hx hd;go_wp2;go_roundw
    case rel=>
     refine⟨k+1,ad,by go_num,λj a1=>?_,O⟩;by_cases m:j<k
     .exact ah.o j m
     .obtain rfl:j=k:=ad;exact aV.o
    case measure=>exact aF
  .obtain rfl:k=n:=ad;have a8:=ae (show decide (bU∈S)=false from decide_eq_false (λh=>by
    obtain⟨j,a1,he⟩:=List.mem_iff_getElem.1 h;exact ah.o j (aC bL.o) (by rw[List.getElem?_eq_getElem a1,he])))
   exact vI
theorem xl(ck:Int)(A:IP)(n c:Nat)(L:List Int)(p:bK)(q:List Value)(sl:Value)(w:World)(hs:Sl w (av w) A n (L.map .i))(hn:n<=140737488355328)(hp:p.param=true->0<=p.index/\p.index<n) :
  Calls prog 56 #[.agg #[.int .i64 ck,.slice A n c],.agg #[.bool p.param,.int .i64 p.index,sl]] w λr ab=>r=.returned (.int .i64 (if p.param then L.getD p.index.toNat 0 else p.index))/\Ext w ab:=by
 obtain⟨pm,i,a⟩:=p;simp only at hp ⊢;cases pm
 .go_enter func56,ntmps56;go_wp2;go_ret;exact⟨rfl,(IK.alloc _).alloc _⟩
 .obtain⟨h0,ac⟩:=hp rfl;obtain⟨k,rfl⟩:=Ic h0;have ap:k<n:=ad;obtain⟨b,o,x,rfl,ao,hx,c0⟩:=hs.wg ap;have aV:=ae (show L.getD (Int.toNat k) 0=x by rw[List.getD_eq_getElem?_getD,Iw,hx];rfl);clear hx;suffices aG:Calls prog 56 #[.agg #[.int .i64 ck,.slice (some ⟨b,o,none⟩) n c],.agg #[.bool true,.int .i64 (k:Int),sl]] w λr ab=>r=.returned (.int .i64 x)/\Ext w ab from
   aG.mono λe aO ac=>⟨ac.1.trans (by rw[<-aV.o];simp),ac.2⟩
  go_enter func56,ntmps56;go_wp2;go_ret;exact⟨rfl,(IK.alloc _).alloc _⟩
section
attribute [local go_sem ↓] gN gO
theorem po{w:World}{e:TypeId}(h:w.ownsRow base e sz (.slice A n c) n xs):n<=c/\(A=none->n=0):=by
 rcases h.2 with⟨bC,h0⟩|⟨g,cap,cur,bC,_,_,aG,_⟩
 .injection bC with ac J aR;exact⟨ad,λ_=>h0⟩
 .injection bC with ac J aR;subst ac aR;exact⟨aG,(λh=>nomatch h)⟩
end
section
attribute [local go_sem ↓] gN gO
def iW(T:List cQ)(e:Int):cQ:=(T[e.toNat]?).getD ⟨0,0⟩
def De(X:List bJ)(i:Int):Bool:=((X[i.toNat]?).map bJ.re).getD false
def free(X:List bJ)(T:List cQ)(e th:Int):Bool:=
 decide (0<=bU X e/\0<=th) && ((iW T e).owner == 0 || ((iW T e).owner == th+1 && De X (bU X e)))
def heldBy(X:List bJ)(T:List cQ)(e th:Int):Bool:=decide (0<=bU X e/\0<=th) && (iW T e).owner == th+1
def g9(X:List bJ)(T:List cQ)(e th:Int):List cQ:=if free X T e th then T.set e.toNat ⟨th+1,(iW T e).depth+1⟩ else T
def down(h:cQ):cQ:=⟨if h.depth - 1=0 then 0 else h.owner,h.depth - 1⟩
def dE(X:List bJ)(T:List cQ)(e th:Int):List cQ:=if heldBy X T e th then T.set e.toNat (down (iW T e)) else T
structure Fl(X:List bJ)(T:List cQ):Prop where
 len:T.length=(own X).length
 bound:∀h∈T,0<=h.owner/\h.owner<=1000000000/\0<=h.depth/\h.depth<=1000000000
theorem Fl.at_(h:Fl X T)(he:0<=bU X e):∃k m hd,e=(k:Nat)/\k<T.length/\T[k]?=some hd/\iW T e=hd/\bU X e=(m:Nat)/\m<X.length:=by
 obtain⟨h0,ac⟩:=fE.1 he;obtain⟨i,c,ak,hm,_⟩:=rr he;obtain⟨k,rfl⟩:=Ic h0;have hl:=fv X;have ap:k<T.length:=by rw[h.len];omega
 exact⟨k,i,T[k],rfl,ap,List.getElem?_eq_getElem ap,by unfold iW;rw[Iw,List.getElem?_eq_getElem ap];rfl,ak,(List.getElem?_eq_some_iff.1 hm).1⟩
theorem oV{th:Int}(h:¬(0<=bU X e/\0<=th)):free X T e th=false:=by
 unfold free;rw[decide_eq_false h];rfl
theorem lz{th:Int}(h:¬(0<=bU X e/\0<=th)):heldBy X T e th=false:=by
 unfold heldBy;rw[decide_eq_false h];rfl
theorem hg(X:List bJ)(T:List cQ)(e th:Int):(g9 X T e th).length=T.length:=by
 unfold g9;split<;>simp
theorem fX(X:List bJ)(T:List cQ)(e th:Int):(dE X T e th).length=T.length:=by
 unfold dE;split<;>simp
theorem su(A A2:IP)(n c cd c2:Nat)(X:List bJ)(T:List cQ)(e th:Int)(w:World)(h:cJ (EF iM) 3 w w.heap.size A n X)(hX:rY X)
  (ht:cJ (EF ca) 2 w w.heap.size A2 cd T) (a5:Fl X T) (he:e<=9223372036854775807) (bi:th<=4611686018427387904) :
  Calls prog 76 #[.slice A n c,.slice A2 cd c2,.int .i64 e,.int .i64 th] w λr ab=>r=.returned (.bool (free X T e th))/\Below w.heap.size w ab:=by
 go_enter func76,ntmps76;go_wp2_with(fail);refine(sE A n c X e w h hX he).mono ?_;rintro r aO ⟨rfl,O⟩;by_cases hm:0<=bU X e
 case neg=>
  have a8:=ae (show free X T e th=false from oV ad);have bd:bU X e<0:=ad;clear hm;exact vI
 obtain⟨k,m,hd,rfl,ap,d,f,S,s⟩:=a5.at_ hm;rw[S];have Q:k<cd:=by have:=ht.1;omega
 have du:m<n:=by have:=h.1;omega
 by_cases h0:0<=th
 case neg=>
  have a8:=ae (show free X T k th=false from oV ad);have j:th<0:=ad;clear h0 d f S;exact vI
 obtain⟨b,o,z,rfl,ao,hx,c0,c1⟩:=(ht.eQ O).hold Q;obtain rfl:hd=z:=by rw[d] at hx;injection hx
 obtain⟨K,V,mx,rfl,l,g,d0,d1,d2⟩:=(h.eQ O).GL du;have bB:=a5.bound hd (Ia d);have bc:De X m=mx.re:=by unfold De;rw[Iw,g];rfl
 have a1:free X T k th=(hd.owner == 0 || (hd.owner == th+1 && mx.re)):=by
  unfold free;rw[decide_eq_true ⟨hm,h0⟩,f,S,bc,Bool.true_and]
 have a8:=ae a1;clear a1 hx g d f S hm bc;by_cases bu:hd.owner=0
 .have cL:=ae bu;have dk:(hd.owner == 0)=true:=by simpa using bu
  clear bu;go_wp2;go_ret;exact⟨ret_bool (by rw[a8.o,cL.o];rfl),O⟩
 have dk:(hd.owner == 0)=false:=by simpa using bu
 by_cases b5:hd.owner=th+1
 .have cL:=ae b5;have a:=ae dk;have i:(hd.owner - 1 == th)=true:=by simp;omega
  exact yc
 .have cL:=ae (show (hd.owner == th+1)=false by simpa using b5);have a:=ae dk;have i:(hd.owner - 1 == th)=false:=by simp;omega
  exact yc
theorem mM(A:IP)(n c:Nat)(T:List cQ)(w:World)(ht:cJ (EF ca) 2 w w.heap.size A n T)(hn:n<=5000) :
  Calls prog 103 #[.slice A n c] w λr ab=>∃aE L,r=.returned (.slice aE n L)/\ab.ownsRow w.heap.size 137 2 (.slice aE n L) n (T.flatMap ca)/\Below w.heap.size w ab:=by
 have heq:=λW=>qE (P:=prog) W 42 137 A n c 0 0 Tryz.underlying42;rcases A with _|a
 .have ax:n=0:=by
   rcases Nat.eq_zero_or_pos n with h0|h0
   .exact h0
   .obtain⟨b,o,h,_⟩:=ht.2 h0;cases h
  subst ax;have a5:T=[]:=List.eq_nil_of_length_eq_zero ht.1;subst a5;go_enter func103,ntmps103;exact yg
 .have ao:=Src.wu ht (hr T) (xp T) ad;go_enter func103,ntmps103;go_wp2_with(at_builtin;refine nH _ vT (by rfl) (.tmp 5) (.tmp 6) (by rfl) (by rfl) _ _ _ _ (by rfl) ao ad ad (λh=>nomatch h) ?_;intro cF c1 aO az bo);go_ret;exact⟨cF,c1,rfl,az,bo⟩
theorem mj{w:World}{a:Nat}{e:TypeId}{v:Value}(h:w.ownsRow base e sz v n xs)(O:a<=base):w.ownsRow a e sz v n xs:=by
 refine⟨h.1,?_⟩;rcases h.2 with J|⟨g,cap,cur,rfl,j,rest⟩
 .exact .inl J
 .exact .inr ⟨g,cap,cur,rfl,ad,rest⟩
def hH(w:World)(T:List cQ)(b:Bool)(r:Ending)(ab:World):Prop:=
 ∃aE L,r=.returned (.tuple #[.slice aE T.length L,.bool b])/\ab.ownsRow w.heap.size 137 2 (.slice aE T.length L) T.length (T.flatMap ca)/\Below w.heap.size w ab
theorem hH.mk'{w:World}{K:Bool}(hn:T.length=n)(I:ab.ownsRow w.heap.size 137 2 (.slice A n c) n (T.flatMap ca))(O:Below w.heap.size w ab)(ao:b=K):
  hH w T b (.returned (.tuple #[.slice A n c,.bool K])) ab:=by
 subst hn ao;exact⟨A,c,rfl,I,O⟩
theorem hH.open_{w:World}{r:Ending}(h:hH w T b r ab)(hn:T.length=n):
  ∃aE L,r=.returned (.tuple #[.slice aE n L,.bool b])/\n<=L/\cJ (EF ca) 2 ab ab.heap.size aE n T/\ab.ownsRow w.heap.size 137 2 (.slice aE n L) n (T.flatMap ca)/\Below w.heap.size w ab:=by
 subst hn;obtain⟨A,c,aY,I,O⟩:=h;exact⟨A,c,aY,(po I).1,jb I (hr T) rfl,I,O⟩
theorem ml{w:World}{hd:cQ}(h:w.ownsRow base 137 2 (.slice A n c) n (T.flatMap ca))(ap:k<n)(hx:T[k]?=some hd):
  ∃g,A=some ⟨g,0,none⟩/\base<=g/\g<w.heap.size/\w.cell? ⟨g,k*2,none⟩=some (.int .i64 hd.owner)/\w.cell? ⟨g,k*2+1,none⟩=some (.int .i64 hd.depth)/\(∀j,w.frozen? ⟨g,j,none⟩=false)/\
   (∀x,(w.setCell ⟨g,k*2,none⟩ (.int .i64 x)).ownsRow base 137 2 (.slice A n c) n ((T.set k ⟨x,hd.depth⟩).flatMap ca))/\
   (∀x,(w.setCell ⟨g,k*2+1,none⟩ (.int .i64 x)).ownsRow base 137 2 (.slice A n c) n ((T.set k ⟨hd.owner,x⟩).flatMap ca)):=by
 obtain⟨g,bj,O,al,hc,aA,hs⟩:=kQ h ad;have h0:=fk ca 2 T (hr T) k hd hx 0 ad;have ac:=fk ca 2 T (hr T) k hd hx 1 ad;refine⟨g,bj,O,al,hc _ _ h0,hc _ _ ac,aA,λx=>?_,λx=>?_⟩
 .rw[<-jw ca 2 T (hr T) k hd hx 0 (.int .i64 x) ⟨x,hd.depth⟩ ad rfl];exact hs _ _ ad
 .rw[<-jw ca 2 T (hr T) k hd hx 1 (.int .i64 x) ⟨hd.owner,x⟩ ad rfl];exact hs _ _ ad
theorem Bt(A A2:IP)(n c cd c2:Nat)(X:List bJ)(T:List cQ)(e th:Int)(w:World)(h:cJ (EF iM) 3 w w.heap.size A n X)(hX:rY X)
  (ht:cJ (EF ca) 2 w w.heap.size A2 cd T) (a5:Fl X T) (he:e<=9223372036854775807) (bi:th<=4611686018427387904) :
  Calls prog 106 #[.slice A n c,.slice A2 cd c2,.int .i64 e,.int .i64 th] w (hH w (g9 X T e th) (free X T e th)):=by
 have bS:=ht.1;have cg:cd<=5000:=by have:=eZ hX;have:=a5.len;omega
 have Y:=hg X T e th;generalize aS:g9 X T e th=L at *;have a7:=ae aS;clear aS;rw[bS] at Y;have H:=ae Y;clear Y;go_enter func106,ntmps106;go_wp2_with(fail);refine(mM A2 cd c2 T w ht cg).mono ?_;rintro r aO ⟨cF,c1,rfl,I,O⟩;go_wp2_with(fail);have F:=h.dh O O.size;have i:=ht.dh O O.size;refine(su A A2 n c cd c2 X T e th aO F hX i a5 he bi).mono ?_;rintro r aT ⟨rfl,bw⟩;have cb:=O.size;have dh:=O.trans (bw.mono O.size);have E:=b5 I bw
 cases aA:free X T e th with
 | false=>
  go_wp2
  go_ret2
  have br:L=T:=by rw[<-a7.o];unfold g9;rw[aA];rfl
  exact hH.mk' H.o (by rw[br];exact E) dh aA
 | true=>
  have hm:0<=bU X e/\0<=th:=by
   by_cases aG:0<=bU X e/\0<=th
   .exact aG
   .rw[oV aG] at aA;cases aA
  obtain⟨k,m,hd,rfl,ap,d,f,S,s⟩:=a5.at_ hm.1;have Q:k<cd:=ad;have bB:=a5.bound hd (Ia d);obtain⟨b,o,z,rfl,ao,hx,c0,cm⟩:=(ht.eQ dh).hold Q;obtain rfl:hd=z:=by rw[d] at hx;injection hx
  obtain⟨g,rfl,aM,dy,e0,e1,af,am,s1⟩:=ml E Q d;have l:=af (k*2);have t:=af (k*2+1);have br:L=T.set k ⟨th+1,hd.depth+1⟩:=by rw[<-a7.o];unfold g9;rw[aA,f];rfl
  obtain⟨bL,bV⟩:=aN br aA;have bq:=hm.2;have q:=ae (am (th+1));clear hx d f S br aA hm am s1 af bS;go_wp2
  go_ret2
  refine hH.mk' (A:=some ⟨g,0,none⟩) (c:=c1) (n:=cd) H.o ?_ ?_ bV.o
  .rw[bL.o];have b4:(T.set k ⟨th+1,hd.depth⟩)[k]?=some ⟨th+1,hd.depth⟩:=by rw[List.getElem?_set_self ad]
   obtain⟨al,j,_,_,_,_,_,_,s1⟩:=ml q.o Q b4;injection j with j;injection j with j;subst j;have:=s1 (hd.depth+1);rw[List.set_set] at this;exact this
  .exact(dh.setCell (by simpa using aM) _).setCell (by simpa using aM) _
theorem vn(A A2:IP)(n c cd c2:Nat)(X:List bJ)(T:List cQ)(e th:Int)(w:World)(hX:rY X)
  (ht:cJ (EF ca) 2 w w.heap.size A2 cd T) (a5:Fl X T) (bi:th<=4611686018427387904) :
  Calls prog 107 #[.slice A n c,.slice A2 cd c2,.int .i64 e,.int .i64 th] w (hH w (dE X T e th) (heldBy X T e th)):=by
 have bS:=ht.1;have cg:cd<=5000:=by have:=eZ hX;have:=a5.len;omega
 have Y:=fX X T e th;have hlen:(cd:Int)=elems X:=by rw[<-fv,<-a5.len,bS]
 generalize aS:dE X T e th=L at *;obtain⟨a7,b2⟩:=aN aS hlen;clear aS hlen;rw[bS] at Y;have H:=ae Y;clear Y;go_enter func107,ntmps107;go_wp2_with(fail);refine(mM A2 cd c2 T w ht cg).mono ?_;rintro r aO ⟨cF,c1,rfl,I,O⟩;have cb:=O.size;have no:heldBy X T e th=false->L=T:=λh=>by rw[<-a7.o];unfold dE;rw[h];rfl
 by_cases ac:0<=e
 case neg=>
  have aA:heldBy X T e th=false:=lz (λaG=>ac (fE.1 aG.1).1);have bL:=ae (no aA);have bV:=ae aA;have ce:e<0:=ad;clear ac no aA bS;go_wp2
  go_ret2
  exact vK
 by_cases J:e<cd
 case neg=>
  have aA:heldBy X T e th=false:=lz (λaG=>by have:=(fE.1 aG.1).2;have:=b2.o;omega);have bL:=ae (no aA);have bV:=ae aA;have i:(cd:Int)<=e:=ad;clear J no aA bS;go_wp2
  go_ret2
  exact vK
 have hm:0<=bU X e:=pd ac (aC b2.o);obtain⟨k,m,hd,rfl,ap,d,f,S,s⟩:=a5.at_ hm;have Q:k<cd:=ad;by_cases aR:0<=th
 case neg=>
  have aA:heldBy X T k th=false:=lz ad;have bL:=ae (no aA);have bV:=ae aA;have v:th<0:=ad;clear aR no aA bS d f S hm;go_wp2
  go_ret2
  exact vK
 have bB:=a5.bound hd (Ia d);obtain⟨b,o,z,rfl,ao,hx,c0,cm⟩:=(ht.eQ O).hold Q;obtain rfl:hd=z:=by rw[d] at hx;injection hx
 by_cases bv:hd.owner=th+1
 case neg=>
  have aA:heldBy X T k th=false:=by
   unfold heldBy;rw[f,show (hd.owner == th+1)=false by simpa using bv];simp
  have bL:=ae (no aA);have bV:=ae aA;have u:(hd.owner - 1 != th)=true:=by simp;omega
  clear bv no aA bS d f S hm hx;go_wp2
  go_ret2
  exact vK
 have aA:heldBy X T k th=true:=by
  unfold heldBy;rw[f,show (hd.owner == th+1)=true by simpa using bv,decide_eq_true ⟨hm,aR⟩];rfl
 have u:(hd.owner - 1 != th)=false:=by simp;omega
 obtain⟨g,rfl,aM,dy,e0,e1,af,am,s1⟩:=ml I Q d;have l:=af (k*2);have t:=af (k*2+1);have br:L=T.set k (down hd):=by rw[<-a7.o];unfold dE;rw[aA,f];rfl
 obtain⟨bL,bV⟩:=aN br aA;have C:=ae (s1 (hd.depth - 1));have N:=ae d;clear hx d f S br aA hm am s1 af bS no bv;by_cases ct:hd.depth - 1=0
 .have y:(hd.depth - 1 == 0)=true:=by simpa using ct
  have dz:=ae ct;clear ct;go_wp2
  go_ret2
  refine hH.mk' (A:=some ⟨g,0,none⟩) (c:=c1) (n:=cd) H.o ?_ ?_ bV.o
  .rw[bL.o,down,if_pos dz.o];have b4:(T.set k ⟨hd.owner,hd.depth - 1⟩)[k]?=some ⟨hd.owner,hd.depth - 1⟩:=by rw[List.getElem?_set_self ad]
   obtain⟨al,j,_,_,_,_,_,am,_⟩:=ml C.o Q b4;injection j with j;injection j with j;subst j;have:=am 0;rw[List.set_set] at this;exact this
  .exact(O.setCell (by simpa using aM) _).setCell (by simpa using aM) _
 .have y:(hd.depth - 1 == 0)=false:=by simpa using ct
  have dz:=ae ct;clear ct;go_wp2
  go_ret2
  refine hH.mk' (A:=some ⟨g,0,none⟩) (c:=c1) (n:=cd) H.o ?_ ?_ bV.o
  .rw[bL.o,down,if_neg dz.o];exact C.o
  .exact O.setCell (by simpa using aM) _
end
end Go.Proofs.YtajlmkkidmjgoaaGreatDoor
