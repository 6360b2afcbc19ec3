/- Part 6 of the proof. No condition of its own. -/
import Derived.Test.YtnigabjngpnbiabGreatF03
namespace Go.Proofs.YtnigabjngpnbiabGreat
open Go.RowKit Go.Proofs.Tryz
set_option maxRecDepth 1000000
set_option maxHeartbeats 25600000
set_option linter.unusedVariables false
variable{d:D}{x:Int}{l m:List D}{cs:List Value}{B k n sz:Nat}{A:NH}{α:Type}
def bo:VE->D
 | .num n=>.st [.i 1,.i n,.s ⟨#[]⟩,.sl []]
 | .gU s=>.st [.i 2,.i 0,.s s,.sl []]
 | .loc k=>.st [.i 18,.i k,.s ⟨#[]⟩,.sl []]
 | .ij k=>.st [.i 19,.i k,.s ⟨#[]⟩,.sl []]
 | .un op x=>.st [.i op,.i 0,.s ⟨#[]⟩,.sl [bo x]]
 | .bin op x y=>.st [.i op,.i 0,.s ⟨#[]⟩,.sl [bo x,bo y]]
def j7:D:=.st [.i 0,.i 0,.s ⟨#[]⟩,.sl []]
def o9:Option VE->D
 | none=>j7
 | some x=>bo x
def VE.a5:VE->Int
 | .num _=>1
 | .gU _=>2
 | .loc _=>18
 | .ij _=>19
 | .un op _=>op
 | .bin op _ _=>op
def VE.numOf:VE->Int
 | .num n=>n
 | .loc k=>k
 | .ij k=>k
 | _=>0
def VE.bw:VE->ByteArray
 | .gU s=>s
 | _=>⟨#[]⟩
def VE.args:VE->List VE
 | .un _ x=>[x]
 | .bin _ x y=>[x,y]
 | _=>[]
theorem yK(x:VE):bo x=.st [.i x.a5,.i x.numOf,.s x.bw,.sl (x.args.map bo)]:=by
 cases x<;>simp[bo,VE.a5,VE.numOf,VE.bw,VE.args]
theorem c7(x:VE):(bo x).sz=4:=by rw[yK];rfl
section
variable {w:World} {P:Nat->Prop}
theorem aR:D.aQ w P [] cs↔cs=[]:=by simp only[D.aQ]
theorem bj{n:Int}:D.aQ w P (.i n::l) cs↔∃y,cs=.int .i64 n::y/\D.aQ w P l y:=by
 exact Ew
theorem fE{n:Bool}:D.aQ w P (.b n::l) cs↔∃y,cs=.bool n::y/\D.aQ w P l y:=by
 exact Ew
theorem cx{n:ByteArray}:D.aQ w P (.s n::l) cs↔∃y,cs=.string n::y/\D.aQ w P l y:=by
 exact Ew
theorem aN:D.aQ w P (.sl m::l) cs↔∃A n c y,cs=.slice A n c::y/\n<=c/\Sl w P A n m/\D.aQ w P l y:=by
 constructor
 .intro h;simp only[D.aQ] at h;obtain⟨x,y,rfl,hx,h⟩:=h;obtain⟨A,c,n,rfl,hc,hs⟩:=D.ud.1 hx;exact⟨A,n,c,y,rfl,hc,hs,h⟩
 .rintro⟨A,n,c,y,rfl,hc,hs,h⟩;simp only[D.aQ];exact⟨_,y,rfl,D.ud.2 ⟨A,c,n,rfl,hc,hs⟩,h⟩
theorem bK:(D.st m).rep w P cs↔D.aQ w P m cs:=by simp only[D.rep]
theorem aY{x:VE}:(bo x).rep w P cs↔∃A n c,cs=[.int .i64 x.a5,.int .i64 x.numOf,.string x.bw,.slice A n c]/\n<=c/\Sl w P A n (x.args.map bo):=by
 rw[yK,bK,bj];constructor
 .rintro⟨y,rfl,h⟩;obtain⟨cr,rfl,ac⟩:=bj.1 h;obtain⟨cf,rfl,az⟩:=cx.1 ac;obtain⟨A,n,c,bv,rfl,hc,hs,aV⟩:=aN.1 az;exact yv
 .rintro⟨A,n,c,rfl,hc,hs⟩;exact⟨_,rfl,bj.2 ⟨_,rfl,cx.2 ⟨_,rfl,aN.2 ⟨A,n,c,[],rfl,hc,hs,aR.2 rfl⟩⟩⟩⟩
theorem fy:j7.rep w P cs↔∃A c,cs=[.int .i64 0,.int .i64 0,.string ⟨#[]⟩,.slice A 0 c]:=by
 unfold j7;rw[bK,bj];constructor
 .rintro⟨y,rfl,h⟩;obtain⟨cr,rfl,ac⟩:=bj.1 h;obtain⟨cf,rfl,az⟩:=cx.1 ac;obtain⟨A,n,c,bv,rfl,hc,hs,aV⟩:=aN.1 az;rw[aR] at aV;subst aV;obtain rfl:n=0:=hs.1.symm;exact⟨A,c,rfl⟩
 .rintro⟨A,c,rfl⟩;exact⟨_,rfl,bj.2 ⟨_,rfl,cx.2 ⟨_,rfl,aN.2 ⟨A,0,c,[],rfl,Nq _,Sl.bY A,aR.2 rfl⟩⟩⟩⟩
theorem Sl.Fv(h:Sl w P A 1 [d])(aI:d.sz=4):∃b o b0 Z a9 H,A=some ⟨b,o,none⟩/\P b/\d.rep w P [b0,Z,a9,H]/\
  w.cell? ⟨b,o,none⟩=some b0/\w.cell? ⟨b,o+1,none⟩=some Z/\w.cell? ⟨b,o+2,none⟩=some a9/\w.cell? ⟨b,o+3,none⟩=some H:=by
 obtain⟨b,o,a,cs,bF,O,hd,ba,hl,hc⟩:=h.at_ (z:=4) (k:=0) (λe he=>by simp at he;subst he;exact aI) ad;simp at hd;subst hd
 match cs,hl with
 | [b0,Z,a9,H],_=>
  have h0:=hc 0 b0 rfl;have ac:=hc 1 Z rfl;have az:=hc 2 a9 rfl;have aV:=hc 3 H rfl;simp only[Nat.zero_mul,Nd] at h0 ac az aV;exact⟨b,o,b0,Z,a9,H,bF,O,ba,h0,ac,az,aV⟩
theorem Sl.LL{e:D}(h:Sl w P A 2 [d,e])(aI:d.sz=4)(b8:e.sz=4):∃b o b0 Z a9 H ci cr cf bv,A=some ⟨b,o,none⟩/\P b/\d.rep w P [b0,Z,a9,H]/\e.rep w P [ci,cr,cf,bv]/\
  w.cell? ⟨b,o,none⟩=some b0/\w.cell? ⟨b,o+1,none⟩=some Z/\w.cell? ⟨b,o+2,none⟩=some a9/\w.cell? ⟨b,o+3,none⟩=some H/\
  w.cell? ⟨b,o+4,none⟩=some ci/\w.cell? ⟨b,o+5,none⟩=some cr/\w.cell? ⟨b,o+6,none⟩=some cf/\w.cell? ⟨b,o+7,none⟩=some bv:=by
 have s:∀x∈[d,e],x.sz=4:=λx hx=>by
  simp at hx;rcases hx with rfl|rfl<;>assumption
 obtain⟨b,o,a,cs,bF,O,hd,ba,hl,hc⟩:=h.at_ (z:=4) (k:=0) s ad;obtain⟨ct,da,l,f,am,_,he,I,aB,a7⟩:=h.at_ (z:=4) (k:=1) s ad;rw[bF] at am;injection am with am;injection am with aZ cc;subst aZ cc;simp at hd he;subst hd he
 match cs,hl,f,aB with
 | [b0,Z,a9,H],_,[ci,cr,cf,bv],_=>
  have h0:=hc 0 b0 rfl;have ac:=hc 1 Z rfl;have az:=hc 2 a9 rfl;have aV:=hc 3 H rfl;have cZ:=a7 0 ci rfl;have cw:=a7 1 cr rfl;have bR:=a7 2 cf rfl;have cS:=a7 3 bv rfl;simp only[Nat.zero_mul,Nd,Nat.one_mul,Nat.add_assoc,Nat.reduceAdd] at h0 ac az aV cZ cw bR cS;exact⟨b,o,b0,Z,a9,H,ci,cr,cf,bv,bF,O,ba,I,h0,ac,az,aV,cZ,cw,bR,cS⟩
theorem jO:∀(x:VE) (cs:List Value),(bo x).rep w P cs->x.rep w P cs
 | .num n,cs,h=>by
  obtain⟨A,n,c,rfl,_,hs⟩:=aY.1 h;obtain rfl:n=0:=hs.1.symm
  exact⟨_,_,_,rfl⟩
 | .gU s,cs,h=>by
  obtain⟨A,n,c,rfl,_,hs⟩:=aY.1 h;obtain rfl:n=0:=hs.1.symm
  exact⟨_,_,_,rfl⟩
 | .loc k,cs,h=>by
  obtain⟨A,n,c,rfl,_,hs⟩:=aY.1 h;obtain rfl:n=0:=hs.1.symm
  exact⟨_,_,_,rfl⟩
 | .ij k,cs,h=>by
  obtain⟨A,n,c,rfl,_,hs⟩:=aY.1 h;obtain rfl:n=0:=hs.1.symm
  exact⟨_,_,_,rfl⟩
 | .un op x,cs,h=>by
  obtain⟨A,n,c,rfl,_,hs⟩:=aY.1 h;obtain rfl:n=1:=hs.1.symm;obtain⟨b,o,b0,Z,a9,H,rfl,O,ba,c0,c1,c2,c3⟩:=Sl.Fv hs (c7 x)
  exact⟨_,_,b,o,c,b0,Z,a9,H,rfl,O,jO x _ ba,c0,c1,c2,c3⟩
 | .bin op x y,cs,h=>by
  obtain⟨A,n,c,rfl,_,hs⟩:=aY.1 h;obtain rfl:n=2:=hs.1.symm;obtain⟨b,o,b0,Z,a9,H,ci,cr,cf,bv,rfl,O,ba,I,c0,c1,c2,c3,d0,d1,d2,d3⟩:=Sl.LL hs (c7 x) (c7 y);exact⟨_,_,b,o,c,b0,Z,a9,H,ci,cr,cf,bv,rfl,O,jO x _ ba,jO y _ I,c0,c1,c2,c3,d0,d1,d2,d3⟩
end
def kW(r:eY):D:=.st [.s r.name,.sl (r.idx.toList.map bo)]
def gv:D:=.st [.s ⟨#[]⟩,.sl []]
def eP:dq->D
 | .mx r=>.st [.b true,kW r,j7]
 | .ex e=>.st [.b false,gv,bo e]
def gW(kind:Int)(name:ByteArray)(e r:D)(args th el:List D):D:=.st [.i kind,.s name,e,r,.sl args,.sl th,.sl el]
def dc:al->List D
 | .nil=>[]
 | .set v n e rest=>gW (if v then 1 else 2) n (bo e) gv [] [] []::dc rest
 | .call g n aY rest=>gW (if g then 4 else 3) n j7 gv (aY.map eP) [] []::dc rest
 | .lock u r rest=>gW (if u then 6 else 5) ⟨#[]⟩ j7 (kW r) [] [] []::dc rest
 | .ite e th el rest=>gW 7 ⟨#[]⟩ (bo e) gv [] (dc th) (dc el)::dc rest
 | .gM e th rest=>gW 8 ⟨#[]⟩ (bo e) gv [] (dc th) []::dc rest
 | .ret rest=>gW 9 ⟨#[]⟩ j7 gv [] [] []::dc rest
def cC(p:ByteArray×Bool):D:=.st [.s p.1,.b p.2]
def dA(f:aI):D:=.st [.s f.name,.sl (f.params.map cC),.sl (dc f.body)]
def iR(g:ByteArray×Int):D:=.st [.s g.1,.i g.2]
def eF(m:bM):D:=.st [.s m.name,.b m.re,.i m.size]
def dg(p:bO):D:=.st [.b p.param,.i p.index,.sl (p.at_.toList.map bo)]
def er(x:aA):D:=.st [.i x.op,.i x.target,.b x.du,o9 x.expr,dg x.place,.sl (x.ints.map bo),.sl (x.places.map dg)]
def gA(p:cR):D:=.st [.s p.name,.i p.ints,.i p.az,.i p.locals,.sl (p.code.map er)]
def uR(u:aw):D:=.st [.sl (u.globals.map D.i),.sl (u.af.map eF),.sl (u.procs.map gA),.i u.main]
def gP(f:ao):D:=.st [.i f.proc,.i f.pc,.sl (f.ints.map D.i),.sl (f.az.map D.i)]
def mY(t:List ao):D:=.st [.sl (t.map gP)]
def mq(h:di):D:=.st [.i h.owner,.i h.depth]
section
attribute [local go_sem ↓] gI gJ
def within(x n:Int):Int:=x % n
theorem Ak{n:Int}(h:0<n):(x.tmod n+n).tmod n=within x n:=by
 unfold within;have ac:=Int.emod_nonneg x (show n≠0 by omega);have az:=Int.emod_lt_of_pos x h;have key:∀y:Int,0<=y->y.tmod n=y % n:=λy bb=>Int.tmod_eq_emod_of_nonneg bb;rcases Int.lt_or_le x 0 with hx|hx
 .have e1:x.tmod n = -((-x) % n):=by
   have:=key (-x) ad;rw[Int.neg_tmod] at this;omega
  have aV:=Int.emod_nonneg (-x) (show n≠0 by omega);have aU:=Int.emod_lt_of_pos (-x) h;rw[e1,key _ ad];rw[Int.add_emod_right];have cB:(-((-x) % n)) % n=x % n:=by
   have bG:-((-x) % n)=x+n*((-x) / n):=by
    have:=Int.emod_add_mul_ediv (-x) n;omega
   rw[bG,Int.add_mul_emod_self_left]
  exact cB
 .rw[key x hx,key _ ad,Int.add_emod_right,Int.emod_emod_of_dvd _ (Int.dvd_refl n)]
theorem ur{n:Int}(h:0<n):0<=within x n/\within x n<n:=⟨Int.emod_nonneg x ad,Int.emod_lt_of_pos x h⟩
theorem cp.K4{w:World}{l:List bM}(h:cp (EF hA) 3 w B A n l)(aj:k<n):
  ∃b o m,A=some ⟨b,o,none⟩/\b<B/\l[k]?=some m/\w.cell? ⟨b,o+k*3,none⟩=some (.string m.name)/\w.cell? ⟨b,o+k*3+1,none⟩=some (.bool m.re)/\w.cell? ⟨b,o+k*3+2,none⟩=some (.int .i64 m.size):=by
 obtain⟨b,o,m,bF,O,hm,_,hc⟩:=h.Kt aj;exact⟨b,o,m,bF,O,hm,hc 0 _ rfl,hc 1 _ rfl,hc 2 _ rfl⟩
theorem cp.hold{w:World}{l:List di}(h:cp (EF ch) 2 w B A n l)(aj:k<n):
  ∃b o m,A=some ⟨b,o,none⟩/\b<B/\l[k]?=some m/\w.cell? ⟨b,o+k*2,none⟩=some (.int .i64 m.owner)/\w.cell? ⟨b,o+k*2+1,none⟩=some (.int .i64 m.depth):=by
 obtain⟨b,o,m,bF,O,hm,_,hc⟩:=h.Kt aj;exact⟨b,o,m,bF,O,hm,hc 0 _ rfl,hc 1 _ rfl⟩
theorem Fh(l:List bM):∀x∈l,(hA x).length=3:=λ_ _=>rfl
theorem eL(l:List di):∀x∈l,(ch x).length=2:=λ_ _=>rfl
theorem Fw(l:List bM):∀x∈l,∀u∈hA x,u.oneCell'=true:=λx _ u hu=>by
 simp only[hA,Nk,List.not_mem_nil,or_false] at hu;rcases hu with rfl|rfl|rfl<;>rfl
theorem lK(l:List di):∀x∈l,∀u∈ch x,u.oneCell'=true:=λx _ u hu=>by
 simp only[ch,Nk,List.not_mem_nil,or_false] at hu;rcases hu with rfl|rfl<;>rfl
theorem m7(l:List Int):∀x∈l,∀u∈bQ x,u.oneCell'=true:=λx _ u hu=>by
 simp only[bQ,Nk,List.not_mem_nil,or_false] at hu;subst hu;rfl
theorem mN:cq prog 27 138 (.agg #[(0:Int),(0:Int)]) 2 16:=cq.mk' Tryz.underlying27 (by kernel_rfl) rfl ad
theorem mf:cq prog 23 112 (.agg #[NF,false,(0:Int)]) 3 32:=cq.mk' Tryz.underlying23 (by kernel_rfl) rfl ad
theorem ku(x n:Int)(hn:0<n)(O:n<=4611686018427387904)(w:World) :
  Calls prog 16 #[x,n] w λe ab=>e=.returned (.int .i64 (within x n))/\w=ab:=by
 have aI:(n == 0)=false:=by simp;omega
 go_enter func16,ntmps16;go_wp2;go_ret;refine⟨ret_int ?_,rfl⟩;have ac:=Int.lt_tmod_of_pos x hn;have az:=Int.tmod_lt_of_pos x hn;rw[<-Ak hn];congr 1
 unfold RowKit.wrap64;omega
theorem tw(A:NH)(n c:Nat)(X:List bM)(w:World)(h:cp (EF hA) 3 w w A n X)(hX:po X) :
  Calls prog 123 #[.slice A n c] w λe ab=>e=.returned (.int .i64 (elems X))/\Below w w ab:=by
 have hl:=h.1;have hn:=hX.1;go_enter func123,ntmps123;go_wp2;go_loopw [3,8] (λs i wr=>∃k:Nat,k<=n/\i=.int .i64 k/\s=.int .i64 (elems (X.take k))/\Below w w wr) (λ_ i _=>n - (intOf i).toNat)
 case atStart=>exact⟨0,Nq _,rfl,rfl,Below.refl _ _⟩
 case round=>
  obtain⟨k,aj,rfl,rfl,O⟩:=hrel;by_cases ap:k<n
  .obtain⟨b,o,m,rfl,ao,hm,c0,c1,c2⟩:=(h.fA O).K4 ap;have u:=hX.mR k;have b2:=hX.at_ hm;have U:=O.size;have bH:=ae (show elems (X.take (k+1))=elems (X.take k)+max m.size 1 by rw[aU hm,iP];rfl);clear hm;go_wp2;go_roundw
   case rel=>exact⟨k+1,ad,by go_num,by rw[bH.o],((O.alloc U _).alloc (by simp;omega) _)⟩
   case measure=>exact aH
  .go_wp2;go_ret;exact⟨ret_int (by first|rfl|rw[Nb ad]),O⟩
theorem EE(A:NH)(n c:Nat)(X:List bM)(m:Int)(w:World)(h:cp (EF hA) 3 w w.heap.size A n X)(hX:po X)(aQ:n<=c) :
  Calls prog 94 #[.slice A n c,m] w λe ab=>e=.returned (.int .i64 (e6 X m))/\Below w w ab:=by
 have hl:=h.1;by_cases hm:m<0
 .have bL:=ae (show e6 X m = -1 from mj (.inl hm));clear h hX hl;go_enter func94,ntmps94;exact wy
 by_cases aA:(n:Int)<=m
 .have bL:=ae (show e6 X m = -1 from mj (.inr ad));clear h hX hl;go_enter func94,ntmps94;exact wy
 obtain⟨k,rfl⟩:=M6 (show 0<=m by omega);have bL:=ae (show e6 X k=elems (X.take k) from nM ad);have q:cp (EF hA) 3 w w A k (X.take k):=by
  refine⟨by simp;omega,λaj=>?_⟩;obtain⟨b,o,bF,O,hc⟩:=h.2 ad;refine⟨b,o,bF,O,λj x hx=>hc j x ?_⟩;rw[List.getElem?_take] at hx;split at hx
  .exact hx
  .cases hx
 have aj:k<n:=ad;have a:=hX.take k;clear h hX hl hm aA;go_enter func94,ntmps94;go_wp2_with(fail);refine(tw A k k _ w q a).mono ?_;rintro e ab ⟨rfl,O⟩;go_wp2;go_ret;exact⟨ret_int (by rw[bL.o]),O⟩
theorem vl(A:NH)(n c:Nat)(X:List bM)(e:Int)(w:World)(h:cp (EF hA) 3 w w.heap.size A n X)(hX:po X)(he:e<=9223372036854775807) :
  Calls prog 95 #[.slice A n c,e] w λr ab=>r=.returned (.int .i64 (bF X e))/\Below w w ab:=by
 have hl:=h.1;have hn:=hX.1;by_cases I:e<0
 .have bL:=ae (show bF X e = -1 from jr I);clear h hX hl;go_enter func95,ntmps95;exact wy
 go_enter func95,ntmps95;go_wp2;go_loopw [1,11] (λs i wr=>∃k:Nat,k<=n/\i=.int .i64 k/\s=.int .i64 (e - elems (X.take k))/\elems (X.take k)<=e/\Below w w wr) (λ_ i _=>n - (intOf i).toNat)
 case atStart=>exact⟨0,Nq _,rfl,Ff (by simp[elems]),by simp[elems];omega,Below.refl _ _⟩
 case round=>
  obtain⟨k,aj,rfl,rfl,hle,O⟩:=hrel;by_cases ap:k<n
  .obtain⟨b,o,m,rfl,ao,hm,c0,c1,c2⟩:=(h.fA O).K4 ap;have u:=hX.mR k;have b2:=hX.at_ hm;have U:=O.size;have bH:=ae (show elems (X.take (k+1))=elems (X.take k)+max m.size 1 by rw[aU hm,iP];rfl);have dX:=ae hm;clear hm;by_cases aB:e - elems (X.take k)<max m.size 1
   .have a3:=ae (show bF X e=k from k1 dX.o ad hle (by unfold bM.num;omega));go_wp2;go_ret;exact⟨ret_int (by rw[a3.o]),((O.alloc U _).alloc (by simp;omega) _)⟩
   .go_wp2;go_roundw
    case rel=>exact⟨k+1,ad,by go_num,Ff (by rw[bH.o];omega),by rw[bH.o];omega,(((O.alloc U _).alloc (by simp;omega) _).alloc (by simp;omega) _)⟩
    case measure=>exact aH
  .have a3:=ae (show bF X e = -1 from js (by rwa [Nb ad] at hle));exact r0
end
theorem Sl.K7{enc:α->D}{f:α->List Value}(J:∀(w:World) (P:Nat->Prop) (x:α) (cs:List Value),(enc x).rep w P cs->cs=f x)(aI:∀x,(enc x).sz=sz)
  {w:World} {A:NH} {n:Nat} {l:List α} (h:Sl w (av w) A n (l.map enc)):cp (EF f) sz w w A n l:=by
 have hl:l.length=n:=by rw[<-h.1,M5]
 refine⟨hl,λhn=>?_⟩;obtain⟨b,o,bF,O⟩:=h.some_ hn;refine⟨b,o,bF,O,λk x hx=>?_⟩;have aj:k<n:=by have:=(List.getElem?_eq_some_iff.1 hx).1;omega
 obtain⟨ct,da,y,cs,am,_,bb,ba,bo,hc⟩:=h.g1 aI aj;rw[bF] at am;injection am with am;injection am with ac az;subst ac az;rw[hx] at bb;injection bb with bb;subst bb;exact⟨cs,J _ _ _ _ ba,bo,hc⟩
theorem nj{α:Type}{enc:α->D}{f:α->List Value}{w:World}{P:Nat->Prop}(J:∀x,(enc x).rep w P (f x)):∀l:List α,D.aQ w P (l.map enc) (l.flatMap f)
 | []=>by simp only[Nr,D.aQ,List.flatMap_nil]
 | x::l=>by
  rw[M7,No];simp only[D.aQ];exact⟨_,_,rfl,J x,nj J l⟩
theorem cp.sl{enc:α->D}{f:α->List Value}{w:World}{P:Nat->Prop}{l:List α}(J:∀x,(enc x).rep w P (f x))(hs:∀x,(f x).length=sz)(h0:0<sz)
  (h:cp (EF f) sz w B A n l) (bh:∀b,b<B->P b):Sl w P A n (l.map enc):=by
 refine⟨by rw[M5,h.1],λhn=>?_⟩;obtain⟨b,o,bF,O,hc⟩:=h.2 hn;refine⟨b,o,l.flatMap f,bF,bh b O,nj J l,λj u bi=>?_⟩;have aV:=(List.getElem?_eq_some_iff.1 bi).1;rw[gD f sz l λx _=>hs x] at aV;have ce:j / sz<l.length:=by rw[Nat.div_lt_iff_lt_mul h0];exact aV
 have hx:l[j / sz]?=some (l[j / sz]'ce):=List.getElem?_eq_getElem ce;have d:=Nat.mod_lt j h0;have a:j / sz*sz+j % sz=j:=Nat.div_add_mod' j sz;have cr:=fX f sz l (λx _=>hs x) _ _ hx (j % sz) d;rw[a,bi] at cr;obtain⟨cs,he,_,c⟩:=hc _ _ hx;rw[EF] at he;subst he;have:=c _ _ cr.symm
 rwa [Nat.add_assoc,a] at this
theorem y1{w:World}{P:Nat->Prop}:(D.i x).rep w P cs↔cs=bQ x:=by simp only[D.rep,bQ]
theorem Sl.ints{w:World}{l:List Int}(h:Sl w (av w) A n (l.map D.i)):cp (EF bQ) 1 w w A n l:=Sl.K7 (enc:=D.i) (f:=bQ) (λ_ _ _ _=>y1.1) (λ_=>rfl) h
theorem cp.ints{w:World}{P:Nat->Prop}{l:List Int}(h:cp (EF bQ) 1 w B A n l)(bh:∀b,b<B->P b):Sl w P A n (l.map D.i):=cp.sl (enc:=D.i) (f:=bQ) (λ_=>y1.2 rfl) (λ_=>rfl) (by decide) h bh
theorem fv{w:World}{P:Nat->Prop}{m:bM}:(eF m).rep w P cs↔cs=hA m:=by
 unfold eF;rw[bK,cx];constructor
 .rintro⟨y,rfl,h⟩;rw[fE] at h;exact AQ
 .rintro rfl;exact⟨_,rfl,fE.2 ⟨_,rfl,bj.2 ⟨_,rfl,aR.2 rfl⟩⟩⟩
theorem vF{w:World}{P:Nat->Prop}{m:di}:(mq m).rep w P cs↔cs=ch m:=by
 unfold mq;rw[bK,bj];exact Eu
theorem Sl.tO{w:World}{l:List bM}(h:Sl w (av w) A n (l.map eF)):cp (EF hA) 3 w w A n l:=Sl.K7 (enc:=eF) (f:=hA) (λ_ _ _ _=>fv.1) (λ_=>rfl) h
theorem cp.tO{w:World}{P:Nat->Prop}{l:List bM}(h:cp (EF hA) 3 w B A n l)(bh:∀b,b<B->P b):Sl w P A n (l.map eF):=cp.sl (enc:=eF) (f:=hA) (λ_=>fv.2 rfl) (λ_=>rfl) (by decide) h bh
theorem Sl.holds{w:World}{l:List di}(h:Sl w (av w) A n (l.map mq)):cp (EF ch) 2 w w A n l:=Sl.K7 (enc:=mq) (f:=ch) (λ_ _ _ _=>vF.1) (λ_=>rfl) h
theorem cp.holds{w:World}{P:Nat->Prop}{l:List di}(h:cp (EF ch) 2 w B A n l)(bh:∀b,b<B->P b):Sl w P A n (l.map mq):=cp.sl (enc:=mq) (f:=ch) (λ_=>vF.2 rfl) (λ_=>rfl) (by decide) h bh
end Go.Proofs.YtnigabjngpnbiabGreat
