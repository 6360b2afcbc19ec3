/- Part 4 of the proof. No condition of its own. -/
import Derived.Test.YtpkfopfkdgkfkaaGreatQ02
namespace Go.Proofs.YtpkfopfkdgkfkaaGreat
open Go.RowKit Go.Proofs.Tryz
set_option maxRecDepth 1000000
set_option maxHeartbeats 25600000
set_option linter.unusedVariables false
variable{b:Bool}{d:D}{e x:Int}{l m:List D}{cs xs:List Value}{X:List bM}{T:List cx}{B base c k n sz:Nat}{A:Mt}{p:Prop}{α:Type}{ab:World}
def bm:VE->D
 | .num n=>.st [.i 1,.i n,.s ⟨#[]⟩,.sl []]
 | .hg s=>.st [.i 2,.i 0,.s s,.sl []]
 | .loc k=>.st [.i 18,.i k,.s ⟨#[]⟩,.sl []]
 | .iI k=>.st [.i 19,.i k,.s ⟨#[]⟩,.sl []]
 | .un op x=>.st [.i op,.i 0,.s ⟨#[]⟩,.sl [bm x]]
 | .bin op x y=>.st [.i op,.i 0,.s ⟨#[]⟩,.sl [bm x,bm y]]
def jU:D:=.st [.i 0,.i 0,.s ⟨#[]⟩,.sl []]
def oD:Option VE->D
 | none=>jU
 | some x=>bm x
def VE.bf:VE->Int
 | .num _=>1
 | .hg _=>2
 | .loc _=>18
 | .iI _=>19
 | .un op _=>op
 | .bin op _ _=>op
def VE.numOf:VE->Int
 | .num n=>n
 | .loc k=>k
 | .iI k=>k
 | _=>0
def VE.bu:VE->ByteArray
 | .hg s=>s
 | _=>⟨#[]⟩
def VE.args:VE->List VE
 | .un _ x=>[x]
 | .bin _ x y=>[x,y]
 | _=>[]
theorem x1(x:VE):bm x=.st [.i x.bf,.i x.numOf,.s x.bu,.sl (x.args.map bm)]:=by
 cases x<;>simp[bm,VE.bf,VE.numOf,VE.bu,VE.args]
theorem df(x:VE):(bm x).sz=4:=by rw[x1];rfl
section
variable {w:World} {P:Nat->Prop}
theorem aR:D.aM w P [] cs↔cs=[]:=by simp only[D.aM]
theorem bo{n:Int}:D.aM w P (.i n::l) cs↔∃y,cs=.int .i64 n::y/\D.aM w P l y:=by
 exact D0
theorem fD{n:Bool}:D.aM w P (.b n::l) cs↔∃y,cs=.bool n::y/\D.aM w P l y:=by
 exact D0
theorem cu{n:ByteArray}:D.aM w P (.s n::l) cs↔∃y,cs=.string n::y/\D.aM w P l y:=by
 exact D0
theorem aO:D.aM w P (.sl m::l) cs↔∃A n c y,cs=.slice A n c::y/\n<=c/\Sl w P A n m/\D.aM w P l y:=by
 constructor
 .intro h;simp only[D.aM] at h;obtain⟨x,y,rfl,hx,h⟩:=h;obtain⟨A,c,n,rfl,hc,hs⟩:=D.tq.1 hx;exact⟨A,n,c,y,rfl,hc,hs,h⟩
 .rintro⟨A,n,c,y,rfl,hc,hs,h⟩;simp only[D.aM];exact⟨_,y,rfl,D.tq.2 ⟨A,c,n,rfl,hc,hs⟩,h⟩
theorem bN:(D.st m).rep w P cs↔D.aM w P m cs:=by simp only[D.rep]
theorem aZ{x:VE}:(bm x).rep w P cs↔∃A n c,cs=[.int .i64 x.bf,.int .i64 x.numOf,.string x.bu,.slice A n c]/\n<=c/\Sl w P A n (x.args.map bm):=by
 rw[x1,bN,bo];constructor
 .rintro⟨y,rfl,h⟩;obtain⟨cp,rfl,ac⟩:=bo.1 h;obtain⟨cX,rfl,ap⟩:=cu.1 ac;obtain⟨A,n,c,bx,rfl,hc,hs,aV⟩:=aO.1 ap;exact so
 .rintro⟨A,n,c,rfl,hc,hs⟩;exact⟨_,rfl,bo.2 ⟨_,rfl,cu.2 ⟨_,rfl,aO.2 ⟨A,n,c,[],rfl,hc,hs,aR.2 rfl⟩⟩⟩⟩
theorem fw:jU.rep w P cs↔∃A c,cs=[.int .i64 0,.int .i64 0,.string ⟨#[]⟩,.slice A 0 c]:=by
 unfold jU;rw[bN,bo];constructor
 .rintro⟨y,rfl,h⟩;obtain⟨cp,rfl,ac⟩:=bo.1 h;obtain⟨cX,rfl,ap⟩:=cu.1 ac;obtain⟨A,n,c,bx,rfl,hc,hs,aV⟩:=aO.1 ap;rw[aR] at aV;subst aV;obtain rfl:n=0:=hs.1.symm;exact⟨A,c,rfl⟩
 .rintro⟨A,c,rfl⟩;exact⟨_,rfl,bo.2 ⟨_,rfl,cu.2 ⟨_,rfl,aO.2 ⟨A,0,c,[],rfl,Md _,Sl.bS A,aR.2 rfl⟩⟩⟩⟩
theorem Sl.E2(h:Sl w P A 1 [d])(aL:d.sz=4):∃b o ci aK a4 E,A=some ⟨b,o,none⟩/\P b/\d.rep w P [ci,aK,a4,E]/\
  w.cell? ⟨b,o,none⟩=some ci/\w.cell? ⟨b,o+1,none⟩=some aK/\w.cell? ⟨b,o+2,none⟩=some a4/\w.cell? ⟨b,o+3,none⟩=some E:=by
 obtain⟨b,o,a,cs,bG,O,hd,a5,hl,hc⟩:=h.at_ (z:=4) (k:=0) (λe he=>by simp at he;subst he;exact aL) ad;simp at hd;subst hd
 match cs,hl with
 | [ci,aK,a4,E],_=>
  have h0:=hc 0 ci rfl;have ac:=hc 1 aK rfl;have ap:=hc 2 a4 rfl;have aV:=hc 3 E rfl;simp only[Nat.zero_mul,LW] at h0 ac ap aV;exact⟨b,o,ci,aK,a4,E,bG,O,a5,h0,ac,ap,aV⟩
theorem Sl.KF{e:D}(h:Sl w P A 2 [d,e])(aL:d.sz=4)(cb:e.sz=4):∃b o ci aK a4 E cK cp cX bx,A=some ⟨b,o,none⟩/\P b/\d.rep w P [ci,aK,a4,E]/\e.rep w P [cK,cp,cX,bx]/\
  w.cell? ⟨b,o,none⟩=some ci/\w.cell? ⟨b,o+1,none⟩=some aK/\w.cell? ⟨b,o+2,none⟩=some a4/\w.cell? ⟨b,o+3,none⟩=some E/\
  w.cell? ⟨b,o+4,none⟩=some cK/\w.cell? ⟨b,o+5,none⟩=some cp/\w.cell? ⟨b,o+6,none⟩=some cX/\w.cell? ⟨b,o+7,none⟩=some bx:=by
 have s:∀x∈[d,e],x.sz=4:=λx hx=>by
  simp at hx;rcases hx with rfl|rfl<;>assumption
 obtain⟨b,o,a,cs,bG,O,hd,a5,hl,hc⟩:=h.at_ (z:=4) (k:=0) s ad;obtain⟨K,Q,l,r,am,_,he,J,ao,S⟩:=h.at_ (z:=4) (k:=1) s ad;rw[bG] at am;injection am with am;injection am with a1 b1;subst a1 b1;simp at hd he;subst hd he
 match cs,hl,r,ao with
 | [ci,aK,a4,E],_,[cK,cp,cX,bx],_=>
  have h0:=hc 0 ci rfl;have ac:=hc 1 aK rfl;have ap:=hc 2 a4 rfl;have aV:=hc 3 E rfl;have dg:=S 0 cK rfl;have cx:=S 1 cp rfl;have bY:=S 2 cX rfl;have b9:=S 3 bx rfl;simp only[Nat.zero_mul,LW,Nat.one_mul,Nat.add_assoc,Nat.reduceAdd] at h0 ac ap aV dg cx bY b9;exact⟨b,o,ci,aK,a4,E,cK,cp,cX,bx,bG,O,a5,J,h0,ac,ap,aV,dg,cx,bY,b9⟩
theorem kI:∀(x:VE) (cs:List Value),(bm x).rep w P cs->x.rep w P cs
 | .num n,cs,h=>by
  obtain⟨A,n,c,rfl,_,hs⟩:=aZ.1 h;obtain rfl:n=0:=hs.1.symm
  exact⟨_,_,_,rfl⟩
 | .hg s,cs,h=>by
  obtain⟨A,n,c,rfl,_,hs⟩:=aZ.1 h;obtain rfl:n=0:=hs.1.symm
  exact⟨_,_,_,rfl⟩
 | .loc k,cs,h=>by
  obtain⟨A,n,c,rfl,_,hs⟩:=aZ.1 h;obtain rfl:n=0:=hs.1.symm
  exact⟨_,_,_,rfl⟩
 | .iI k,cs,h=>by
  obtain⟨A,n,c,rfl,_,hs⟩:=aZ.1 h;obtain rfl:n=0:=hs.1.symm
  exact⟨_,_,_,rfl⟩
 | .un op x,cs,h=>by
  obtain⟨A,n,c,rfl,_,hs⟩:=aZ.1 h;obtain rfl:n=1:=hs.1.symm;obtain⟨b,o,ci,aK,a4,E,rfl,O,a5,c0,c1,c2,c3⟩:=Sl.E2 hs (df x)
  exact⟨_,_,b,o,c,ci,aK,a4,E,rfl,O,kI x _ a5,c0,c1,c2,c3⟩
 | .bin op x y,cs,h=>by
  obtain⟨A,n,c,rfl,_,hs⟩:=aZ.1 h;obtain rfl:n=2:=hs.1.symm;obtain⟨b,o,ci,aK,a4,E,cK,cp,cX,bx,rfl,O,a5,J,c0,c1,c2,c3,d0,d1,d2,d3⟩:=Sl.KF hs (df x) (df y);exact⟨_,_,b,o,c,ci,aK,a4,E,cK,cp,cX,bx,rfl,O,kI x _ a5,kI y _ J,c0,c1,c2,c3,d0,d1,d2,d3⟩
end
def kL(r:e4):D:=.st [.s r.name,.sl (r.idx.toList.map bm)]
def gj:D:=.st [.s ⟨#[]⟩,.sl []]
def eU:dt->D
 | .mx r=>.st [.b true,kL r,jU]
 | .ex e=>.st [.b false,gj,bm e]
def gO(kind:Int)(name:ByteArray)(e r:D)(args th el:List D):D:=.st [.i kind,.s name,e,r,.sl args,.sl th,.sl el]
def dc:ao->List D
 | .nil=>[]
 | .set v n e rest=>gO (if v then 1 else 2) n (bm e) gj [] [] []::dc rest
 | .call g n aW rest=>gO (if g then 4 else 3) n jU gj (aW.map eU) [] []::dc rest
 | .lock u r rest=>gO (if u then 6 else 5) ⟨#[]⟩ jU (kL r) [] [] []::dc rest
 | .ite e th el rest=>gO 7 ⟨#[]⟩ (bm e) gj [] (dc th) (dc el)::dc rest
 | .gI e th rest=>gO 8 ⟨#[]⟩ (bm e) gj [] (dc th) []::dc rest
 | .ret rest=>gO 9 ⟨#[]⟩ jU gj [] [] []::dc rest
def cD(p:ByteArray×Bool):D:=.st [.s p.1,.b p.2]
def dD(f:aL):D:=.st [.s f.name,.sl (f.params.map cD),.sl (dc f.body)]
def iG(g:ByteArray×Int):D:=.st [.s g.1,.i g.2]
def eK(m:bM):D:=.st [.s m.name,.b m.re,.i m.size]
def dy(p:bU):D:=.st [.b p.param,.i p.index,.sl (p.at_.toList.map bm)]
def ew(x:aC):D:=.st [.i x.op,.i x.target,.b x.dv,oD x.expr,dy x.place,.sl (x.ints.map bm),.sl (x.places.map dy)]
def gv(p:cM):D:=.st [.s p.name,.i p.ints,.i p.an,.i p.locals,.sl (p.code.map ew)]
def tW(u:aA):D:=.st [.sl (u.globals.map D.i),.sl (u.af.map eK),.sl (u.procs.map gv),.i u.main]
def dh(f:al):D:=.st [.i f.proc,.i f.pc,.sl (f.ints.map D.i),.sl (f.an.map D.i)]
def fI(t:List al):D:=.st [.sl (t.map dh)]
def ky(h:cx):D:=.st [.i h.owner,.i h.depth]
theorem Sl.rO{w:World}{P:Nat->Prop}{l:List Int}(h:Sl w P A n (l.map .i))(aj:k<n):
  ∃b o x,A=some ⟨b,o,none⟩/\P b/\l[k]?=some x/\w.cell? ⟨b,o+k,none⟩=some (.int .i64 x):=by
 obtain⟨b,o,x,cs,bG,O,hx,a5,hl,hc⟩:=Sl.hf (z:=1) h (λ_=>rfl) aj;simp only[D.rep] at a5;subst a5;exact⟨b,o,x,bG,O,hx,by have:=hc 0 _ rfl;simpa using this⟩
namespace B6
theorem vI(h:p:=by
 go_enter func74,ntmps74;exact vu
 ):p:=h
end B6
open B6 in
theorem tp(A A2:Mt)(n c n2 c2:Nat)(S T:List Int)(w:World)(hs:Sl w (aq w) A n (S.map .i))(ht:Sl w (aq w) A2 n2 (T.map .i))(hn:n<=140737488355328) :
  Calls prog 74 #[.slice A n c,.slice A2 n2 c2] w λr ab=>r=.returned (.bool (decide (S=T)))/\Below w w ab:=by
 have hl:S.length=n:=by have:=hs.1;simpa using this
 have bc:T.length=n2:=by have:=ht.1;simpa using this
 by_cases bi:n=n2
 case neg=>
  exact vH
 subst bi;obtain⟨b6,L⟩:=aJ hl bc;clear hl bc;have bt:((n:Int) != (n:Int))=false:=by simp
 go_enter func74,ntmps74;go_wp2;go_loopw [5] (λi wr=>∃k:Nat,k<=n/\i=.int .i64 k/\(∀j,j<k->S[j]?=T[j]?)/\Below w w wr) (λi _=>n - (intOf i).toNat)
 case atStart=>exact⟨0,Md _,rfl,λj bd=>absurd bd ad,Below.refl _ _⟩
 case round=>
  obtain⟨k,aj,rfl,bm,O⟩:=hrel;have aD:=ae bm;clear bm;by_cases an:k<n
  .obtain⟨b,o,x,rfl,aB,hx,c0⟩:=(hs.on O).rO an;obtain⟨K,Q,d,rfl,l,g,d0⟩:=(ht.on O).rO an;exact Hj
  .obtain rfl:k=n:=ad;exact DV
theorem yQ(A:Mt)(n c:Nat)(S:List Int)(ci:Int)(w:World)(hs:Sl w (aq w) A n (S.map .i))(hn:n<=140737488355328) :
  Calls prog 75 #[.slice A n c,ci] w λr ab=>r=.returned (.bool (decide (ci∈S)))/\Below w w ab:=by
 have hl:S.length=n:=by have:=hs.1;simpa using this
 have b6:=ae hl;clear hl;go_enter func75,ntmps75;go_wp2;go_loopw [5] (λi wr=>∃k:Nat,k<=n/\i=.int .i64 k/\(∀j,j<k->S[j]?≠some ci)/\Below w w wr) (λi _=>n - (intOf i).toNat)
 case atStart=>exact⟨0,Md _,rfl,λj bd=>absurd bd ad,Below.refl _ _⟩
 case round=>
  obtain⟨k,aj,rfl,bm,O⟩:=hrel;have aD:=ae bm;clear bm;by_cases an:k<n
  .obtain⟨b,o,x,rfl,aB,hx,c0⟩:=(hs.on O).rO an;have bp:(0:Int)<=(k:Int):=ad;have ce:(k:Int)<(n:Int):=ad;by_cases hd:x=ci
   .have a3:=ae (show decide (ci∈S)=true from decide_eq_true (hd▸LN hx));have u:(x == ci)=true:=by simp[hd]
    clear hx hd;exact rk
   .have aN:=ae (show S[k]?≠some ci by rw[hx];intro h;injection h with h;exact hd h);have u:(x == ci)=false:=by simp[hd]
    clear hx hd;go_wp2;go_roundw
    case rel=>
     refine⟨k+1,ad,by go_num,λj bd=>?_,O⟩;exact HD
    case measure=>exact aH
  .obtain rfl:k=n:=ad;have a3:=ae (show decide (ci∈S)=false from decide_eq_false (λh=>by
    obtain⟨j,bd,he⟩:=List.mem_iff_getElem.1 h;exact aD.o j (ay b6.o) (by rw[List.getElem?_eq_getElem bd,he])))
   exact rk
theorem y2(cn:Int)(A:Mt)(n c:Nat)(L:List Int)(p:bU)(q:List Value)(sl:Value)(w:World)(hs:Sl w (aq w) A n (L.map .i))(hn:n<=140737488355328)(hp:p.param=true->0<=p.index/\p.index<n) :
  Calls prog 73 #[.agg #[cn,.slice A n c],.agg #[.bool p.param,.int .i64 p.index,sl]] w λr ab=>r=.returned (.int .i64 (if p.param then L.getD p.index.toNat 0 else p.index))/\Ext w ab:=by
 obtain⟨pm,i,a⟩:=p;simp only at hp ⊢;cases pm
 .go_enter func73,ntmps73;go_wp2;go_ret;exact⟨rfl,(Mo.alloc _).alloc _⟩
 .obtain⟨h0,ac⟩:=hp rfl;obtain⟨k,rfl⟩:=LP h0;have aj:k<n:=ad;obtain⟨b,o,x,rfl,aB,hx,c0⟩:=hs.rO aj;have aN:=ae (show L.getD (Int.toNat k) 0=x by rw[List.getD_eq_getElem?_getD,Mc,hx];rfl);clear hx;suffices ah:Calls prog 73 #[.agg #[cn,.slice (some ⟨b,o,none⟩) n c],.agg #[true,k,sl]] w λr ab=>r=.returned x/\Ext w ab from
   ah.mono λe aS ac=>⟨ac.1.trans (by rw[<-aN.o];simp),ac.2⟩
  go_enter func73,ntmps73;go_wp2;go_ret;exact⟨rfl,(Mo.alloc _).alloc _⟩
section
attribute [local go_sem ↓] gE gF
def within(x n:Int):Int:=x % n
theorem zm{n:Int}(h:0<n):(x.tmod n+n).tmod n=within x n:=by
 unfold within;have ac:=Int.emod_nonneg x (show n≠0 by omega);have ap:=Int.emod_lt_of_pos x h;have key:∀y:Int,0<=y->y.tmod n=y % n:=λy bb=>Int.tmod_eq_emod_of_nonneg bb;rcases Int.lt_or_le x 0 with hx|hx
 .have e1:x.tmod n = -((-x) % n):=by
   have:=key (-x) ad;rw[Int.neg_tmod] at this;omega
  have aV:=Int.emod_nonneg (-x) (show n≠0 by omega);have bz:=Int.emod_lt_of_pos (-x) h;rw[e1,key _ ad];rw[Int.add_emod_right];have cI:(-((-x) % n)) % n=x % n:=by
   have bM:-((-x) % n)=x+n*((-x) / n):=by
    have:=Int.emod_add_mul_ediv (-x) n;omega
   rw[bM,Int.add_mul_emod_self_left]
  exact cI
 .rw[key x hx,key _ ad,Int.add_emod_right,Int.emod_emod_of_dvd _ (Int.dvd_refl n)]
theorem dx{n:Int}(h:0<n):0<=within x n/\within x n<n:=⟨Int.emod_nonneg x ad,Int.emod_lt_of_pos x h⟩
theorem cw.I6{w:World}{l:List bM}(h:cw (EF gu) 3 w B A n l)(aj:k<n):
  ∃b o m,A=some ⟨b,o,none⟩/\b<B/\l[k]?=some m/\w.cell? ⟨b,o+k*3,none⟩=some (.string m.name)/\w.cell? ⟨b,o+k*3+1,none⟩=some (.bool m.re)/\w.cell? ⟨b,o+k*3+2,none⟩=some (.int .i64 m.size):=by
 obtain⟨b,o,m,bG,O,hm,_,hc⟩:=h.Jp aj;exact⟨b,o,m,bG,O,hm,hc 0 _ rfl,hc 1 _ rfl,hc 2 _ rfl⟩
theorem cw.hold{w:World}{l:List cx}(h:cw (EF bO) 2 w B A n l)(aj:k<n):
  ∃b o m,A=some ⟨b,o,none⟩/\b<B/\l[k]?=some m/\w.cell? ⟨b,o+k*2,none⟩=some (.int .i64 m.owner)/\w.cell? ⟨b,o+k*2+1,none⟩=some (.int .i64 m.depth):=by
 obtain⟨b,o,m,bG,O,hm,_,hc⟩:=h.Jp aj;exact⟨b,o,m,bG,O,hm,hc 0 _ rfl,hc 1 _ rfl⟩
theorem EL(l:List bM):∀x∈l,(gu x).length=3:=λ_ _=>rfl
theorem eP(l:List cx):∀x∈l,(bO x).length=2:=λ_ _=>rfl
theorem E3(l:List bM):∀x∈l,∀u∈gu x,u.oneCell'=true:=λx _ u hu=>by
 simp only[gu,L5,List.not_mem_nil,or_false] at hu;rcases hu with rfl|rfl|rfl<;>rfl
theorem lu(l:List cx):∀x∈l,∀u∈bO x,u.oneCell'=true:=λx _ u hu=>by
 simp only[bO,L5,List.not_mem_nil,or_false] at hu;rcases hu with rfl|rfl<;>rfl
theorem iO(l:List Int):∀x∈l,∀u∈cO x,u.oneCell'=true:=λx _ u hu=>by
 simp only[cO,L5,List.not_mem_nil,or_false] at hu;subst hu;rfl
theorem k1:cn prog 23 79 (.agg #[(0:Int),(0:Int)]) 2 16:=cn.mk' Tryz.underlying23 (by kernel_rfl) rfl ad
theorem lX:cn prog 28 89 (.agg #[Mq,false,(0:Int)]) 3 32:=cn.mk' Tryz.underlying28 (by kernel_rfl) rfl ad
theorem dV(x n:Int)(hn:0<n)(O:n<=4611686018427387904)(w:World) :
  Calls prog 9 #[x,n] w λe ab=>e=.returned (.int .i64 (within x n))/\w=ab:=by
 have aL:(n == 0)=false:=by simp;omega
 go_enter func9,ntmps9;go_wp2;go_ret;refine⟨ret_int ?_,rfl⟩;have ac:=Int.lt_tmod_of_pos x hn;have ap:=Int.tmod_lt_of_pos x hn;rw[<-zm hn];congr 1
 unfold RowKit.wrap64;omega
theorem ib(A:Mt)(n c:Nat)(X:List bM)(w:World)(h:cw (EF gu) 3 w w A n X)(hX:mr X) :
  Calls prog 17 #[.slice A n c] w λe ab=>e=.returned (.int .i64 (elems X))/\Below w w ab:=by
 have hl:=h.1;have hn:=hX.1;go_enter func17,ntmps17;go_wp2;go_loopw [3,8] (λs i wr=>∃k:Nat,k<=n/\i=.int .i64 k/\s=.int .i64 (elems (X.take k))/\Below w w wr) (λ_ i _=>n - (intOf i).toNat)
 case atStart=>exact⟨0,Md _,rfl,rfl,Below.refl _ _⟩
 case round=>
  obtain⟨k,aj,rfl,rfl,O⟩:=hrel;by_cases an:k<n
  .obtain⟨b,o,m,rfl,aB,hm,c0,c1,c2⟩:=(h.eB O).I6 an;have z:=hX.mz k;have b0:=hX.at_ hm;have U:=O.size;have bt:=ae (show elems (X.take (k+1))=elems (X.take k)+max m.size 1 by rw[aY hm,iE];rfl);clear hm;go_wp2;go_roundw
   case rel=>exact⟨k+1,ad,by go_num,by rw[bt.o],((O.alloc U _).alloc (by simp;omega) _)⟩
   case measure=>exact aH
  .go_wp2;go_ret;exact⟨ret_int (by first|rfl|rw[LS ad]),O⟩
theorem D9(A:Mt)(n c:Nat)(X:List bM)(m:Int)(w:World)(h:cw (EF gu) 3 w w.heap.size A n X)(hX:mr X)(aY:n<=c) :
  Calls prog 132 #[.slice A n c,m] w λe ab=>e=.returned (.int .i64 (e5 X m))/\Below w w ab:=by
 have hl:=h.1;by_cases hm:m<0
 .have b9:=ae (show e5 X m = -1 from lZ (.inl hm));clear h hX hl;go_enter func132,ntmps132;exact vv
 by_cases bQ:(n:Int)<=m
 .have b9:=ae (show e5 X m = -1 from lZ (.inr ad));clear h hX hl;go_enter func132,ntmps132;exact vv
 obtain⟨k,rfl⟩:=LP (show 0<=m by omega);have b9:=ae (show e5 X k=elems (X.take k) from np ad);have E:cw (EF gu) 3 w w A k (X.take k):=by
  refine⟨by simp;omega,λaj=>?_⟩;obtain⟨b,o,bG,O,hc⟩:=h.2 ad;refine⟨b,o,bG,O,λj x hx=>hc j x ?_⟩;rw[List.getElem?_take] at hx;split at hx
  .exact hx
  .cases hx
 have aj:k<n:=ad;have a:=hX.take k;clear h hX hl hm bQ;go_enter func132,ntmps132;go_wp2_with(fail);refine(ib A k k _ w E a).mono ?_;rintro e ab ⟨rfl,O⟩;go_wp2;go_ret;exact⟨ret_int (by rw[b9.o]),O⟩
theorem oi(A:Mt)(n c:Nat)(X:List bM)(e:Int)(w:World)(h:cw (EF gu) 3 w w.heap.size A n X)(hX:mr X)(he:e<=9223372036854775807) :
  Calls prog 41 #[.slice A n c,e] w λr ab=>r=.returned (.int .i64 (a9 X e))/\Below w w ab:=by
 have hl:=h.1;have hn:=hX.1;by_cases a:e<0
 .have b9:=ae (show a9 X e = -1 from jc a);clear h hX hl;go_enter func41,ntmps41;exact vv
 go_enter func41,ntmps41;go_wp2;go_loopw [1,11] (λs i wr=>∃k:Nat,k<=n/\i=.int .i64 k/\s=.int .i64 (e - elems (X.take k))/\elems (X.take k)<=e/\Below w w wr) (λ_ i _=>n - (intOf i).toNat)
 case atStart=>exact⟨0,Md _,rfl,EI (by simp[elems]),by simp[elems];omega,Below.refl _ _⟩
 case round=>
  obtain⟨k,aj,rfl,rfl,hle,O⟩:=hrel;by_cases an:k<n
  .obtain⟨b,o,m,rfl,aB,hm,c0,c1,c2⟩:=(h.eB O).I6 an;have z:=hX.mz k;have b0:=hX.at_ hm;have U:=O.size;have bt:=ae (show elems (X.take (k+1))=elems (X.take k)+max m.size 1 by rw[aY hm,iE];rfl);have cU:=ae hm;clear hm;by_cases a6:e - elems (X.take k)<max m.size 1
   .have a3:=ae (show a9 X e=k from kP cU.o ad hle (by unfold bM.num;omega));go_wp2;go_ret;exact⟨ret_int (by rw[a3.o]),((O.alloc U _).alloc (by simp;omega) _)⟩
   .go_wp2;go_roundw
    case rel=>exact⟨k+1,ad,by go_num,EI (by rw[bt.o];omega),by rw[bt.o];omega,(((O.alloc U _).alloc (by simp;omega) _).alloc (by simp;omega) _)⟩
    case measure=>exact aH
  .have a3:=ae (show a9 X e = -1 from jd (by rwa [LS ad] at hle));exact rm
end
theorem Sl.JZ{enc:α->D}{f:α->List Value}(J:∀(w:World) (P:Nat->Prop) (x:α) (cs:List Value),(enc x).rep w P cs->cs=f x)(aL:∀x,(enc x).sz=sz)
  {w:World} {A:Mt} {n:Nat} {l:List α} (h:Sl w (aq w) A n (l.map enc)):cw (EF f) sz w w A n l:=by
 have hl:l.length=n:=by rw[<-h.1,LO]
 refine⟨hl,λhn=>?_⟩;obtain⟨b,o,bG,O⟩:=h.some_ hn;refine⟨b,o,bG,O,λk x hx=>?_⟩;have aj:k<n:=by have:=(List.getElem?_eq_some_iff.1 hx).1;omega
 obtain⟨K,Q,y,cs,am,_,bb,a5,cx,hc⟩:=h.hf aL aj;rw[bG] at am;injection am with am;injection am with ac ap;subst ac ap;rw[hx] at bb;injection bb with bb;subst bb;exact⟨cs,J _ _ _ _ a5,cx,hc⟩
theorem mY{α:Type}{enc:α->D}{f:α->List Value}{w:World}{P:Nat->Prop}(J:∀x,(enc x).rep w P (f x)):∀l:List α,D.aM w P (l.map enc) (l.flatMap f)
 | []=>by simp only[Me,D.aM,List.flatMap_nil]
 | x::l=>by
  rw[LQ,Mb];simp only[D.aM];exact⟨_,_,rfl,J x,mY J l⟩
theorem cw.sl{enc:α->D}{f:α->List Value}{w:World}{P:Nat->Prop}{l:List α}(J:∀x,(enc x).rep w P (f x))(hs:∀x,(f x).length=sz)(h0:0<sz)
  (h:cw (EF f) sz w B A n l) (bg:∀b,b<B->P b):Sl w P A n (l.map enc):=by
 refine⟨by rw[LO,h.1],λhn=>?_⟩;obtain⟨b,o,bG,O,hc⟩:=h.2 hn;refine⟨b,o,l.flatMap f,bG,bg b O,mY J l,λj u bd=>?_⟩;have bt:=(List.getElem?_eq_some_iff.1 bd).1;rw[gz f sz l λx _=>hs x] at bt;have a8:j / sz<l.length:=by rw[Nat.div_lt_iff_lt_mul h0];exact bt
 have hx:l[j / sz]?=some (l[j / sz]'a8):=List.getElem?_eq_getElem a8;have d:=Nat.mod_lt j h0;have a:j / sz*sz+j % sz=j:=Nat.div_add_mod' j sz;have ce:=fW f sz l (λx _=>hs x) _ _ hx (j % sz) d;rw[a,bd] at ce;obtain⟨cs,he,_,c⟩:=hc _ _ hx;rw[EF] at he;subst he;have:=c _ _ ce.symm
 rwa [Nat.add_assoc,a] at this
theorem mW{w:World}{P:Nat->Prop}:(D.i x).rep w P cs↔cs=cO x:=by simp only[D.rep,cO]
theorem Sl.ints{w:World}{l:List Int}(h:Sl w (aq w) A n (l.map D.i)):cw (EF cO) 1 w w A n l:=Sl.JZ (enc:=D.i) (f:=cO) (λ_ _ _ _=>mW.1) (λ_=>rfl) h
theorem cw.ints{w:World}{P:Nat->Prop}{l:List Int}(h:cw (EF cO) 1 w B A n l)(bg:∀b,b<B->P b):Sl w P A n (l.map D.i):=cw.sl (enc:=D.i) (f:=cO) (λ_=>mW.2 rfl) (λ_=>rfl) (by decide) h bg
theorem ft{w:World}{P:Nat->Prop}{m:bM}:(eK m).rep w P cs↔cs=gu m:=by
 unfold eK;rw[bN,cu];constructor
 .rintro⟨y,rfl,h⟩;rw[fD] at h;exact z3
 .rintro rfl;exact⟨_,rfl,fD.2 ⟨_,rfl,bo.2 ⟨_,rfl,aR.2 rfl⟩⟩⟩
theorem qA{w:World}{P:Nat->Prop}{m:cx}:(ky m).rep w P cs↔cs=bO m:=by
 unfold ky;rw[bN,bo];exact DY
theorem Sl.mM{w:World}{l:List bM}(h:Sl w (aq w) A n (l.map eK)):cw (EF gu) 3 w w A n l:=Sl.JZ (enc:=eK) (f:=gu) (λ_ _ _ _=>ft.1) (λ_=>rfl) h
theorem cw.mM{w:World}{P:Nat->Prop}{l:List bM}(h:cw (EF gu) 3 w B A n l)(bg:∀b,b<B->P b):Sl w P A n (l.map eK):=cw.sl (enc:=eK) (f:=gu) (λ_=>ft.2 rfl) (λ_=>rfl) (by decide) h bg
theorem Sl.holds{w:World}{l:List cx}(h:Sl w (aq w) A n (l.map ky)):cw (EF bO) 2 w w A n l:=Sl.JZ (enc:=ky) (f:=bO) (λ_ _ _ _=>qA.1) (λ_=>rfl) h
theorem cw.holds{w:World}{P:Nat->Prop}{l:List cx}(h:cw (EF bO) 2 w B A n l)(bg:∀b,b<B->P b):Sl w P A n (l.map ky):=cw.sl (enc:=ky) (f:=bO) (λ_=>qA.2 rfl) (λ_=>rfl) (by decide) h bg
section
attribute [local go_sem ↓] gE gF
theorem qp{w:World}{e:TypeId}(h:w.ownsRow base e sz (.slice A n c) n xs):n<=c/\(A=none->n=0):=by
 rcases h.2 with⟨bE,h0⟩|⟨g,cap,cur,bE,_,_,aY,_⟩
 .injection bE with ac ap aV;exact⟨ad,λ_=>h0⟩
 .injection bE with ac ap aV;subst ac aV;exact⟨aY,(λh=>nomatch h)⟩
theorem ka(A:Mt)(n c:Nat)(X:List bM)(w:World)(h:cw (EF gu) 3 w w A n X)(hX:mr X) :
  Calls prog 47 #[.slice A n c] w λr ab=>∃I aE,r=.returned (.slice I (own X).length aE)/\(own X).length<=aE/\cw (EF cO) 1 ab ab I (own X).length (own X)/\Below w w ab:=by
 have hl:=h.1;have hn:=hX.1;go_enter func47,ntmps47;go_wp2;go_loopw [3,4] (λv i wr=>∃k:Nat,k<=n/\i=.int .i64 k/\wr.ownsRow w 3 1 v (iP X k).length ((iP X k).flatMap cO)/\Below w w wr) (λ_ i _=>n - (intOf i).toNat)
 case atStart=>exact⟨0,Md _,rfl,by rw[qo];exact World.ownsRow_nil _ _ _ _,Below.refl _ _⟩
 case round=>
  obtain⟨k,aj,rfl,ao,O⟩:=hrel;by_cases an:k<n
  .have cU:∃m,X[k]?=some m:=⟨_,List.getElem?_eq_getElem ad⟩
   obtain⟨m,hm⟩:=cU;have b0:=hX.at_ hm;have cU:=ae hm;clear hm;go_wp2;obtain⟨T,rfl⟩:∃T:World,T=wr:=⟨_,rfl⟩
   go_loopw [3,5] (λv i wr=>∃j:Nat,j<=m.qk/\i=.int .i64 j/\wr.ownsRow w.heap.size 3 1 v ((iP X k).length+j) ((iP X k++List.replicate j (k:Int)).flatMap cO)/\Below w w wr) (λ_ i _=>m.qk - (intOf i).toNat)
   case atStart=>exact⟨0,Md _,rfl,by simpa using ao,O⟩
   case round=>
    obtain⟨j,bd,rfl,f,a1⟩:=hrel;clear ao;obtain⟨b,o,b4,rfl,aB,hm,c0,c1,c2⟩:=(h.eB a1).I6 an;obtain rfl:b4=m:=by have:=cU.o;rw[hm] at this;injection this
    have cv:=a1.size;have K:(b4.qk:Int)=max b4.size 1:=b4.tb;have d:=gC X k ad;have z:=hX.mz k;clear hm;by_cases cg:j<b4.qk
    .have aX:(j:Int)<max b4.size 1:=ad;have F:(iP X k).length+j+1<=5000:=ad;obtain⟨bX,ch⟩:=aJ K d;clear K d;go_wp2_with(at_builtin;refine cN _ cF (by rfl) (.tmp 22) (.tmp 24) (by rfl) w _ _ _ _ (by rfl) f (by rfl) (by rfl) (kR _ _) ad ad cv ?_;intro v1 aS aO bj ce);go_roundw
     case rel=>
      refine⟨j+1,ad,by go_num,?_,gd a1 f bj (LK _) cv⟩;rw[List.replicate_succ',<-List.append_assoc,lF];exact aO
     case measure=>exact aH
    .obtain rfl:j=b4.qk:=ad;have ak:¬((b4.qk:Int)<max b4.size 1):=ad;obtain⟨bX,ch⟩:=aJ K d;clear K d;go_wp2;go_roundw
     case rel=>
      refine⟨k+1,ad,by go_num,?_,a1⟩;rw[j9 cU.o,LM,List.length_replicate];exact f
     case measure=>exact aH
  .obtain rfl:k=n:=ad;obtain⟨cR,c1,rfl,cz,_,_,_⟩:=bT ao;have b6:=ae hl;clear hl;go_wp2;go_ret;have he:own X=iP X k:=by unfold own;rw[b6.o]
   rw[he];exact⟨_,_,rfl,cz,jN ao (gA _) rfl,O⟩
theorem uG(A:Mt)(n c:Nat)(X:List bM)(m:Int)(w:World)(h:cw (EF gu) 3 w w A n X)(hX:mr X) :
  Calls prog 127 #[.slice A n c,m] w λr ab=>r=.returned (.int .i64 (e5 X m))/\Below w w ab:=by
 go_enter func127,ntmps127;go_wp2_with(fail);refine(ka A n c X w h hX).mono ?_;rintro e aS ⟨cR,c1,rfl,cz,a5,O⟩;have Q:=cm hX;have hl:=h.1;generalize hN:(own X).length=N at *;obtain⟨bX,b6⟩:=aJ hN hl;clear hN hl;go_wp2
 go_loop [6] (λi=>∃k:Nat,k<=N/\i=.int .i64 k/\∀j,j<k->(own X)[j]?≠some m) (λi=>N - (intOf i).toNat)
 case atStart=>exact⟨0,Md _,rfl,λj bd=>absurd bd ad⟩
 case round=>
  obtain⟨k,aj,rfl,bm⟩:=hrel;have aD:=ae bm;clear bm;by_cases an:k<N
  .obtain⟨b,o,x,rfl,aB,hx,c0⟩:=a5.int an;have aN:=ae hx;clear hx;by_cases aO:x=m
   .subst aO;have a3:=ae (show e5 X x=k by
     obtain⟨i,t,bE,P,ac,ap⟩:=Gz aN.o;have aX:i<X.length:=(List.getElem?_eq_some_iff.1 P).1;rw[bE,np aX];have J:=rV aX;rcases Int.lt_or_le (elems (X.take i)) k with an|hle
     .exact absurd (by rw[J,bE]) (aD.o (elems (X.take i)).toNat (by have:=(hX.mz i).1;omega))
     .omega)
    exact rm
   .have bi:(x == m)=false:=by simpa using aO
    go_wp2
    go_round
    case rel=>
     refine⟨k+1,ad,by go_num,λj bd=>?_⟩;by_cases ag:j<k
     .exact aD.o j ag
     .obtain rfl:j=k:=ad;rw[aN.o];intro he;injection he with he;exact aO he
    case measure=>exact aH
  .obtain rfl:k=N:=ad;have a3:=ae (show e5 X m = -1 by
    apply lZ
    rcases Int.lt_or_le m 0 with h0|h0
    .exact .inl h0
    .rcases Int.lt_or_le m X.length with ac|ac
     .exfalso;have J:=rV (X:=X) (k:=m.toNat) ad;have an:=(List.getElem?_eq_some_iff.1 J).1;rw[bX.o] at an;exact aD.o _ an (by rw[J];congr 1;omega)
     .exact .inr ac)
   exact rm
theorem iR(A:Mt)(n c:Nat)(X:List bM)(m:Int)(w:World)(h:cw (EF gu) 3 w w A n X)(hX:mr X) :
  Calls prog 24 #[.slice A n c,m] w λr ab=>r=.returned (.int .i64 (a9 X m))/\Below w w ab:=by
 go_enter func24,ntmps24;go_wp2_with(fail);refine(ka A n c X w h hX).mono ?_;rintro e aS ⟨cR,c1,rfl,cz,a5,O⟩;have Q:=cm hX;have bn:=dU X;generalize hN:(own X).length=N at *;obtain⟨bX,br⟩:=aJ hN bn;clear hN bn;by_cases h0:m<0
 .have a3:=ae (show a9 X m = -1 from jc h0);exact rm
 by_cases ac:(N:Int)<=m
 .have a3:=ae (show a9 X m = -1 from jd (ay br.o));exact rm
 obtain⟨k,rfl⟩:=LP (show 0<=m by omega);obtain⟨b,o,x,rfl,aB,hx,c0⟩:=a5.int (show k<N by omega);have a3:=ae (show a9 X k=x by unfold a9;rw[if_neg ad,Mc,hx];rfl);have d:k<N:=ad;clear hx ac h0;exact rm
end
section
attribute [local go_sem ↓] gE gF
def j4(T:List cx)(e:Int):cx:=(T[e.toNat]?).getD ⟨0,0⟩
def w3(X:List bM)(i:Int):Bool:=((X[i.toNat]?).map bM.re).getD false
def free(X:List bM)(T:List cx)(e th:Int):Bool:=
 decide (0<=a9 X e/\0<=th) && ((j4 T e).owner == 0 || ((j4 T e).owner == th+1 && w3 X (a9 X e)))
def heldBy(X:List bM)(T:List cx)(e th:Int):Bool:=decide (0<=a9 X e/\0<=th) && (j4 T e).owner == th+1
def fL(X:List bM)(T:List cx)(e th:Int):List cx:=if free X T e th then T.set e.toNat ⟨th+1,(j4 T e).depth+1⟩ else T
def down(h:cx):cx:=⟨if h.depth - 1=0 then 0 else h.owner,h.depth - 1⟩
def c5(X:List bM)(T:List cx)(e th:Int):List cx:=if heldBy X T e th then T.set e.toNat (down (j4 T e)) else T
structure FX(X:List bM)(T:List cx):Prop where
 len:T.length=(own X).length
 bound:∀h∈T,0<=h.owner/\h.owner<=1000000000/\0<=h.depth/\h.depth<=1000000000
theorem FX.at_(h:FX X T)(he:0<=a9 X e):∃k m hd,e=(k:Nat)/\k<T.length/\T[k]?=some hd/\j4 T e=hd/\a9 X e=(m:Nat)/\m<X.length:=by
 obtain⟨h0,ac⟩:=eC.1 he;obtain⟨i,t,aX,hm,_⟩:=mN he;obtain⟨k,rfl⟩:=LP h0;have hl:=dU X;have aj:k<T.length:=by rw[h.len];omega
 exact⟨k,i,T[k],rfl,aj,List.getElem?_eq_getElem aj,by unfold j4;rw[Mc,List.getElem?_eq_getElem aj];rfl,aX,(List.getElem?_eq_some_iff.1 hm).1⟩
theorem p1{th:Int}(h:¬(0<=a9 X e/\0<=th)):free X T e th=false:=by
 unfold free;rw[decide_eq_false h];rfl
theorem j5{th:Int}(h:¬(0<=a9 X e/\0<=th)):heldBy X T e th=false:=by
 unfold heldBy;rw[decide_eq_false h];rfl
theorem fq(X:List bM)(T:List cx)(e th:Int):(fL X T e th).length=T.length:=by
 unfold fL;split<;>simp
theorem fj(X:List bM)(T:List cx)(e th:Int):(c5 X T e th).length=T.length:=by
 unfold c5;split<;>simp
namespace Cd
theorem At(h:p:=by
 by_cases cn:hd.owner=th+1
 .have ch:=ae cn;have i:=ae b1;have a:(hd.owner - 1 == th)=true:=by simp;omega
  exact xP
 .have ch:=ae (show (hd.owner == th+1)=false by simpa using cn);have i:=ae b1;have a:(hd.owner - 1 == th)=false:=by simp;omega
  exact xP
 ):p:=h
end Cd
open Cd in
theorem Ey(A A2:Mt)(n c n2 c2:Nat)(X:List bM)(T:List cx)(e th:Int)(w:World)(h:cw (EF gu) 3 w w A n X)(hX:mr X)
  (ht:cw (EF bO) 2 w w.heap.size A2 n2 T) (hT:FX X T) (he:e<=9223372036854775807) (aM:th<=4611686018427387904) :
  Calls prog 133 #[.slice A n c,.slice A2 n2 c2,e,th] w λr ab=>r=.returned (.bool (free X T e th))/\Below w w ab:=by
 go_enter func133,ntmps133;go_wp2_with(fail);refine(oi A n c X e w h hX he).mono ?_;exact As
namespace Ce
theorem At(h:p:=by
 by_cases cn:hd.owner=th+1
 .have ch:=ae cn;have i:=ae b1;have a:(hd.owner == th+1)=true:=by simp;omega
  exact xP
 .have ch:=ae (show (hd.owner == th+1)=false by simpa using cn);have i:=ae b1;have a:(hd.owner == th+1)=false:=by simp;omega
  exact xP
 ):p:=h
end Ce
open Ce in
theorem uH(A A2:Mt)(n c n2 c2:Nat)(X:List bM)(T:List cx)(e th:Int)(w:World)(h:cw (EF gu) 3 w w A n X)(hX:mr X)
  (ht:cw (EF bO) 2 w w.heap.size A2 n2 T) (hT:FX X T) (aM:th<=4611686018427387904) :
  Calls prog 128 #[.slice A n c,.slice A2 n2 c2,e,th] w λr ab=>r=.returned (.bool (free X T e th))/\Below w w ab:=by
 go_enter func128,ntmps128;go_wp2_with(fail);refine(iR A n c X e w h hX).mono ?_;exact As
theorem nr(A:Mt)(n c:Nat)(T:List cx)(w:World)(ht:cw (EF bO) 2 w w.heap.size A n T)(hn:n<=5000) :
  Calls prog 97 #[.slice A n c] w λr ab=>∃I aE,r=.returned (.slice I n aE)/\ab.ownsRow w 79 2 (.slice I n aE) n (T.flatMap bO)/\Below w w ab:=by
 have heq:=λW=>r3 (P:=prog) W 23 79 A n c 0 0 Tryz.underlying23;rcases A with _|a
 .have aM:n=0:=by
   rcases Nat.eq_zero_or_pos n with h0|h0
   .exact h0
   .obtain⟨b,o,h,_⟩:=ht.2 h0;cases h
  subst aM;have hT:T=[]:=List.eq_nil_of_length_eq_zero ht.1;subst hT;go_enter func97,ntmps97;exact Ae
 .have aA:=Src.jL ht (eP T) (lu T) ad;go_enter func97,ntmps97;go_wp2_with(at_builtin;refine db _ k1 (by rfl) (.tmp 5) (.tmp 6) (by rfl) (by rfl) _ _ _ _ (by rfl) aA ad ad (λh=>nomatch h) ?_;intro cR c1 aS aO b0);go_ret;exact⟨cR,c1,rfl,aO,b0⟩
theorem hr{w:World}{a:Nat}{e:TypeId}{v:Value}(h:w.ownsRow base e sz v n xs)(O:a<=base):w.ownsRow a e sz v n xs:=by
 refine⟨h.1,?_⟩;rcases h.2 with ap|⟨g,cap,cur,rfl,j,rest⟩
 .exact .inl ap
 .exact .inr ⟨g,cap,cur,rfl,ad,rest⟩
def gP(w:World)(T:List cx)(b:Bool)(r:Ending)(ab:World):Prop:=
 ∃I aE,r=.returned (.tuple #[.slice I T.length aE,.bool b])/\ab.ownsRow w.heap.size 79 2 (.slice I T.length aE) T.length (T.flatMap bO)/\Below w.heap.size w ab
theorem gP.mk'{w:World}{K:Bool}(hn:T.length=n)(ao:ab.ownsRow w.heap.size 79 2 (.slice A n c) n (T.flatMap bO))(O:Below w.heap.size w ab)(aB:b=K):
  gP w T b (.returned (.tuple #[.slice A n c,K])) ab:=by
 subst hn aB;exact⟨A,c,rfl,ao,O⟩
theorem gP.open_{w:World}{r:Ending}(h:gP w T b r ab)(hn:T.length=n):
  ∃I aE,r=.returned (.tuple #[.slice I n aE,b])/\n<=aE/\cw (EF bO) 2 ab ab I n T/\ab.ownsRow w 79 2 (.slice I n aE) n (T.flatMap bO)/\Below w w ab:=by
 subst hn;obtain⟨A,c,a5,ao,O⟩:=h;exact⟨A,c,a5,(qp ao).1,jN ao (eP T) rfl,ao,O⟩
theorem jM{w:World}{hd:cx}(h:w.ownsRow base 79 2 (.slice A n c) n (T.flatMap bO))(aj:k<n)(hx:T[k]?=some hd):
  ∃g,A=some ⟨g,0,none⟩/\base<=g/\g<w.heap.size/\w.cell? ⟨g,k*2,none⟩=some (.int .i64 hd.owner)/\w.cell? ⟨g,k*2+1,none⟩=some (.int .i64 hd.depth)/\(∀j,w.frozen? ⟨g,j,none⟩=false)/\
   (∀x,(w.setCell ⟨g,k*2,none⟩ (.int .i64 x)).ownsRow base 79 2 (.slice A n c) n ((T.set k ⟨x,hd.depth⟩).flatMap bO))/\
   (∀x,(w.setCell ⟨g,k*2+1,none⟩ (.int .i64 x)).ownsRow base 79 2 (.slice A n c) n ((T.set k ⟨hd.owner,x⟩).flatMap bO)):=by
 obtain⟨g,bG,O,an,hc,J,hs⟩:=g1 h ad;have h0:=fW bO 2 T (eP T) k hd hx 0 ad;have ac:=fW bO 2 T (eP T) k hd hx 1 ad;refine⟨g,bG,O,an,hc _ _ h0,hc _ _ ac,J,λx=>?_,λx=>?_⟩
 .rw[<-j1 bO 2 T (eP T) k hd hx 0 x ⟨x,hd.depth⟩ ad rfl];exact hs _ _ ad
 .rw[<-j1 bO 2 T (eP T) k hd hx 1 x ⟨hd.owner,x⟩ ad rfl];exact hs _ _ ad
theorem ER(A A2:Mt)(n c n2 c2:Nat)(X:List bM)(T:List cx)(e th:Int)(w:World)(h:cw (EF gu) 3 w w A n X)(hX:mr X)
  (ht:cw (EF bO) 2 w w.heap.size A2 n2 T) (hT:FX X T) (he:e<=9223372036854775807) (aM:th<=4611686018427387904) :
  Calls prog 101 #[.slice A n c,.slice A2 n2 c2,e,th] w (gP w (fL X T e th) (free X T e th)):=by
 have bc:=ht.1;have aZ:n2<=5000:=by have:=cm hX;have:=hT.len;omega
 have bJ:=fq X T e th;generalize aQ:fL X T e th=L at *;have b9:=ae aQ;clear aQ;rw[bc] at bJ;have H:=ae bJ;clear bJ;go_enter func101,ntmps101;go_wp2_with(fail);refine(nr A2 n2 c2 T w ht aZ).mono ?_;rintro r aS ⟨cR,c1,rfl,ao,O⟩;go_wp2_with(fail);have E:=h.cZ O O.size;have i:=ht.cZ O O.size;refine(Ey A A2 n c n2 c2 X T e th aS E hX i hT he aM).mono ?_;rintro r aT ⟨rfl,bj⟩;have cv:=O.size;have dr:=O.trans (bj.mono O.size);have S:=b2 ao bj
 cases J:free X T e th with
 | false=>
  go_wp2
  go_ret2
  exact zV
 | true=>
  have hm:0<=a9 X e/\0<=th:=by
   exact z7
  obtain⟨k,m,hd,rfl,aj,d,f,P,bo⟩:=hT.at_ hm.1;have a8:k<n2:=ad;have bl:=hT.bound hd (LN d);obtain⟨b,o,u,rfl,aB,hx,c0,cq⟩:=(ht.eB dr).hold a8;obtain rfl:hd=u:=by rw[d] at hx;injection hx
  obtain⟨g,rfl,aR,cu,e0,e1,I,F,s1⟩:=jM S a8 d;have s:=I (k*2);have t:=I (k*2+1);have bD:L=T.set k ⟨th+1,hd.depth+1⟩:=by rw[<-b9.o];unfold fL;rw[J,f];rfl
  obtain⟨b6,b3⟩:=aJ bD J;have bC:=hm.2;have l:=ae (F (th+1));clear hx d f P bD J hm F s1 I bc;go_wp2
  go_ret2
  exact Hq
theorem uI(A A2:Mt)(n c n2 c2:Nat)(X:List bM)(T:List cx)(e th:Int)(w:World)(h:cw (EF gu) 3 w w A n X)(hX:mr X)
  (ht:cw (EF bO) 2 w w.heap.size A2 n2 T) (hT:FX X T) (aM:th<=4611686018427387904) :
  Calls prog 82 #[.slice A n c,.slice A2 n2 c2,e,th] w (gP w (fL X T e th) (free X T e th)):=by
 have bc:=ht.1;have aZ:n2<=5000:=by have:=cm hX;have:=hT.len;omega
 have bJ:=fq X T e th;generalize aQ:fL X T e th=L at *;have b9:=ae aQ;clear aQ;rw[bc] at bJ;have H:=ae bJ;clear bJ;go_enter func82,ntmps82;have aA:=Src.jL ht (eP T) (lu T) ad;have Z:A2=none->n2=0:=λh0=>by
  exact zX
 have cT:=ae Z;clear Z;go_wp2_with(at_builtin;refine db _ k1 (by rfl) (.tmp 10) (.tmp 11) (by rfl) (by rfl) _ _ _ _ (by rfl) aA ad ad cT.o ?_;intro cR c1 aS ao O);go_wp2_with(fail);have E:=h.cZ O O.size;have i:cw (EF bO) 2 aS aS cR n2 T:=jN ao (eP T) bc;refine(uH A cR n c n2 c1 X T e th aS E hX i hT aM).mono ?_;rintro r aT ⟨rfl,bj⟩;have cv:=O.size;have dr:=O.trans (bj.mono O.size);have S:=b2 ao bj
 cases J:free X T e th with
 | false=>
  go_wp2
  go_ret2
  exact zV
 | true=>
  have hm:0<=a9 X e/\0<=th:=by
   exact z7
  obtain⟨k,m,hd,rfl,aj,d,f,P,bo⟩:=hT.at_ hm.1;have a8:k<n2:=ad;have bl:=hT.bound hd (LN d);obtain⟨g,rfl,aR,cu,e0,e1,I,F,s1⟩:=jM S a8 d;have s:=I (k*2);have t:=I (k*2+1);have bD:L=T.set k ⟨th+1,hd.depth+1⟩:=by rw[<-b9.o];unfold fL;rw[J,f];rfl
  obtain⟨b6,b3⟩:=aJ bD J;have bC:=hm.2;have l:=ae (F (th+1));clear d f P bD J hm F s1 I bc;go_wp2
  go_ret2
  exact Hq
namespace Cf
theorem Bu(h:p:=by
 obtain⟨b,o,u,rfl,aB,hx,c0,cq⟩:=(ht.eB O).hold a8;obtain rfl:hd=u:=by rw[d] at hx;injection hx
 by_cases bz:hd.owner=th+1
 case neg=>
  have J:heldBy X T k th=false:=by
   exact Ad
  have b6:=ae (no J);have b3:=ae J;have v:(hd.owner - 1 != th)=true:=by simp;omega
  clear bz no J bc d f P hm hx;go_wp2
  go_ret2
  exact rl
 have J:heldBy X T k th=true:=by
  exact z0
 have v:(hd.owner - 1 != th)=false:=by simp;omega
 obtain⟨g,rfl,aR,cu,e0,e1,I,F,s1⟩:=jM ao a8 d;have s:=I (k*2);have t:=I (k*2+1);have bD:L=T.set k (down hd):=by rw[<-b9.o];unfold c5;rw[J,f];rfl
 obtain⟨b6,b3⟩:=aJ bD J;have y:=ae (s1 (hd.depth - 1));have Q:=ae d;clear hx d f P bD J hm F s1 I bc no bz;exact Hg
 ):p:=h
theorem Bc(h:p:=by
 go_enter func102,ntmps102;go_wp2_with(fail);refine(nr A2 n2 c2 T w ht aZ).mono ?_;rintro r aS ⟨cR,c1,rfl,ao,O⟩;have cv:=O.size;have no:heldBy X T e th=false->L=T:=λh=>by rw[<-b9.o];unfold c5;rw[h];rfl
 by_cases ac:0<=e
 case neg=>
  have J:heldBy X T e th=false:=j5 (λah=>ac (eC.1 ah.1).1);have b6:=ae (no J);have b3:=ae J;have bP:e<0:=ad;clear ac no J bc;go_wp2
  go_ret2
  exact rl
 by_cases ap:e<n2
 case neg=>
  have J:heldBy X T e th=false:=j5 (λah=>by have:=(eC.1 ah.1).2;have:=bX.o;omega);have b6:=ae (no J);have b3:=ae J;have i:(n2:Int)<=e:=ad;clear ap no J bc;go_wp2
  go_ret2
  exact rl
 have hm:0<=a9 X e:=ma ac (ay bX.o);obtain⟨k,m,hd,rfl,aj,d,f,P,bo⟩:=hT.at_ hm;have a8:k<n2:=ad;exact Bt
 ):p:=h
end Cf
open Cf in
theorem xv(A A2:Mt)(n c n2 c2:Nat)(X:List bM)(T:List cx)(e th:Int)(w:World)(hX:mr X)
  (ht:cw (EF bO) 2 w w.heap.size A2 n2 T) (hT:FX X T) (aM:th<=4611686018427387904) :
  Calls prog 102 #[.slice A n c,.slice A2 n2 c2,e,th] w (gP w (c5 X T e th) (heldBy X T e th)):=by
 exact Bb
namespace Cg
theorem Bu(h:p:=by
 obtain⟨g,rfl,aR,cu,e0,e1,I,F,s1⟩:=jM ao a8 d;by_cases bz:hd.owner=th+1
 case neg=>
  have J:heldBy X T k th=false:=by
   exact Ad
  have b6:=ae (no J);have b3:=ae J;have v:(hd.owner != th+1)=true:=by simpa using bz
  clear bz no J bc d f P hm F s1 I;go_wp2
  go_ret2
  exact rl
 have J:heldBy X T k th=true:=by
  exact z0
 have v:(hd.owner != th+1)=false:=by simpa using bz
 have s:=I (k*2);have t:=I (k*2+1);have bD:L=T.set k (down hd):=by rw[<-b9.o];unfold c5;rw[J,f];rfl
 obtain⟨b6,b3⟩:=aJ bD J;have y:=ae (s1 (hd.depth - 1));have Q:=ae d;clear d f P bD J hm F s1 I bc no bz;exact Hg
 ):p:=h
theorem Bc(h:p:=by
 go_enter func83,ntmps83;have aA:=Src.jL ht (eP T) (lu T) ad;have Z:A2=none->n2=0:=λh0=>by
  exact zX
 have cT:=ae Z;clear Z;go_wp2_with(at_builtin;refine db _ k1 (by rfl) (.tmp 10) (.tmp 11) (by rfl) (by rfl) _ _ _ _ (by rfl) aA ad ad cT.o ?_;intro cR c1 aS i z);go_wp2_with(fail);have E:=h.cZ z z.size;refine(iR A n c X e aS E hX).mono ?_;rintro r aT ⟨rfl,bj⟩;have q:=z.size;have O:=z.trans (bj.mono z.size);have cv:=O.size;have ao:=b2 i bj;clear bj i z q;have no:heldBy X T e th=false->L=T:=λh=>by rw[<-b9.o];unfold c5;rw[h];rfl
 by_cases hm:0<=a9 X e
 case neg=>
  have J:heldBy X T e th=false:=j5 (λah=>hm ah.1);have b6:=ae (no J);have b3:=ae J;have bP:a9 X e<0:=ad;clear hm no J bc;go_wp2
  go_ret2
  exact rl
 obtain⟨k,m,hd,rfl,aj,d,f,P,bo⟩:=hT.at_ hm;have a8:k<n2:=ad;rw[P];exact Bt
 ):p:=h
end Cg
open Cg in
theorem rh(A A2:Mt)(n c n2 c2:Nat)(X:List bM)(T:List cx)(e th:Int)(w:World)(h:cw (EF gu) 3 w w A n X)(hX:mr X)
  (ht:cw (EF bO) 2 w w.heap.size A2 n2 T) (hT:FX X T) (aM:th<=4611686018427387904) :
  Calls prog 83 #[.slice A n c,.slice A2 n2 c2,e,th] w (gP w (c5 X T e th) (heldBy X T e th)):=by
 exact Bb
end
end Go.Proofs.YtpkfopfkdgkfkaaGreat
