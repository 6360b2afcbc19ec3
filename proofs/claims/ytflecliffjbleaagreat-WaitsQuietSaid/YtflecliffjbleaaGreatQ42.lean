/- Part 42 of the proof. No condition of its own. -/
import Derived.Test.YtflecliffjbleaaGreatQ38
import Derived.Test.YtflecliffjbleaaGreatQ40
import Derived.Test.YtflecliffjbleaaGreatQ41
namespace Go.Proofs.YtflecliffjbleaaGreat
open Go.RowKit Go.Proofs.Tryz
set_option maxRecDepth 1000000
set_option maxHeartbeats 25600000
set_option linter.unusedVariables false
variable{a:Atom}{g x:Nat}{P:Nat->Prop}{p:Prop}{t:TypeId}{w:World}
def GV(y:Nat):List UInt8:=[UInt8.ofNat (97+y)]
def JM:List Atom:=[.word [109,117,116,101,120],.ws 32,.word [97],.sg [59],.ws 32,.word [109,117,116,101,120],.ws 32,.word [98],.sg [59],.ws 32,.word [109,117,116,101,120],.ws 32,.word [99],.sg [59],.ws 32,.word [109,117,116,101,120],.ws 32,.word [100],.sg [59],.ws 32,.word [102,117,110,99],.ws 32,.word [102],.sg [40],.word [109,117,116,101,120],.ws 32,.word [120],.sg [44],.ws 32,.word [109,117,116,101,120],.ws 32,.word [121],.sg [41],.ws 32,.sg [123],.ws 32,.word [108,111,99,107],.ws 32,.word [120],.sg [59],.ws 32,.word [108,111,99,107],.ws 32,.word [121],.sg [59],.ws 32,.sg [125],.ws 32,.word [102,117,110,99],.ws 32,.word [109,97,105,110],.sg [40],.sg [41],.ws 32,.sg [123],.ws 32]
def FK(x y:Nat):List Atom:=[.word [103,111],.ws 32,.word [102],.sg [40],.word [109,117,116,101,120],.ws 32,.word (GV x),.sg [44],.ws 32,.word [109,117,116,101,120],.ws 32,.word (GV y),.sg [41],.sg [59],.ws 32]
def ye:Nat->List Nat->List Atom
 | _,[]=>[]
 | i,y::l=>FK (i % 4) y++ye (i+1) l
def uO(a2:List Nat):List Atom:=JM++(ye 0 a2++[.sg [125]])
def uj:Atom->Bool
 | .ws c=>oM c
 | .word s=>(match s with|[]=>false|c::l=>bM c && l.all b1) && (cn s || decide (s.length<=16))
 | .num _=>false
 | .sg s=>decide (s∈eh)
def Dl(a b:Atom):Bool:=(!a.jF || !b.jF) && (match a with
 | .sg s=>(match b.head with|some c=>decide ((s++[c])∉eW) && !(decide (s=[47]) && decide (c=47))|none=>true)
 | _=>true)
def chainB:List Atom->Bool
 | []=>true
 | [a]=>uj a
 | a::b::l=>uj a && Dl a b && chainB (b::l)
theorem uk(h:uj a=true):a.fG:=by
 cases a with
 | ws c=>exact h
 | word s=>
  cases s with
  | nil=>cases h
  | cons c l=>
   simp only[uj,Ln,Bool.or_eq_true,LI] at h
   exact⟨⟨c,l,rfl,h.1.1,h.1.2⟩,h.2⟩
 | num s=>cases h
 | sg s=>exact .inr (by simpa[uj] using h)
theorem Dm{b:Atom}(h:Dl a b=true):a.fits b:=by
 simp only[Dl,Ln,Bool.or_eq_true,Bool.not_eq_true'] at h;refine⟨λaW=>?_,?_⟩
 .rcases h.1 with h|h
  .rw[aW] at h;cases h
  .exact h
 .rintro s rfl _ c hc;have aD:=h.2;simp only[hc,Ln,LI,Bool.not_eq_true',Bool.and_eq_false_iff,decide_eq_false_iff_not] at aD;exact⟨aD.1,λaH=>aD.2.elim (λh=>h aH.1) λh=>h aH.2⟩
theorem k6:∀(l:List Atom),chainB l=true->Atom.chain l
 | [],_=>trivial
 | [a],h=>uk h
 | a::b::l,h=>by
  simp only[chainB,Ln] at h;exact⟨uk h.1.1,Dm h.1.2,k6 (b::l) h.2⟩
theorem EE(c:UInt8)(b:Atom):(Atom.ws c).fits b:=⟨λh=>(by cases h),λs h=>(by cases h)⟩
theorem pQ:∀(l r:List Atom),Atom.chain l->(∃c,l.getLast?=some (.ws c))->Atom.chain r->Atom.chain (l++r)
 | [],_,_,h,_=>by obtain⟨c,h⟩:=h;cases h
 | [a],[],h,_,_=>h
 | [a],b::r,h,hl,aQ=>by
  obtain⟨c,hc⟩:=hl;injection hc with hc;subst hc
  exact⟨h,EE c b,aQ⟩
 | a::b::l,r,h,hl,aQ=>⟨h.1,h.2.1,pQ (b::l) r h.2.2 (by simpa using hl) aQ⟩
theorem four(h0:P 0)(ae:P 1)(aD:P 2)(aU:P 3)(h:x<4):P x:=by
 match x,h with
 | 0,_=>exact h0
 | 1,_=>exact ae
 | 2,_=>exact aD
 | 3,_=>exact aU
theorem wT{y:Nat}(hx:x<4)(a4:y<4):chainB (FK x y)=true:=by
 revert a4;refine four (P:=λx=>y<4->chainB (FK x y)=true) ?_ ?_ ?_ ?_ hx
 all_goals intro a4
 all_goals refine four (P:=λy=>chainB (FK _ y)=true) ?_ ?_ ?_ ?_ a4
 all_goals decide +kernel
theorem oy:∀(a2:List Nat) (i:Nat),(∀y∈a2,y<4)->Atom.chain (ye i a2++[.sg [125]])
 | [],_,_=>k6 [.sg [125]] (by decide)
 | y::l,i,h=>by
  simp only[ye,Lp];exact pQ _ _ (k6 _ (wT ab (h y (by simp)))) ⟨32,rfl⟩ (oy l (i+1) λz ba=>h z (by simp[ba]))
theorem D7{a2:List Nat}(h:∀y∈a2,y<4):Atom.chain (uO a2):=pQ _ _ (k6 _ (by decide +kernel)) ⟨32,rfl⟩ (oy a2 0 h)
def lV(n:Nat):List Atom->List Tok
 | []=>[⟨5,[],0,n⟩]
 | .ws _::l=>lV n l
 | .word s::l=>⟨if s.length=1 then 1 else if cn s then 3 else 1,s,0,(n:Int) - ((s++l.flatMap Atom.bytes).length:Int)⟩::lV n l
 | .num s::l=>⟨2,s,nH s,(n:Int) - ((s++l.flatMap Atom.bytes).length:Int)⟩::lV n l
 | .sg s::l=>⟨4,s,0,(n:Int) - ((s++l.flatMap Atom.bytes).length:Int)⟩::lV n l
theorem FJ{s:List UInt8}(h:s.length=1):cn s=false:=by
 have:∀w∈qY,w.length≠1:=by decide
 unfold cn;exact decide_eq_false λhs=>this s hs h
theorem k0(n:Nat):∀l:List Atom,lU n l=lV n l
 | []=>rfl
 | .ws _::l=>k0 n l
 | .word s::l=>by
  simp only[lU,lV,k0 n l];by_cases h:s.length=1
  .rw[FJ h,if_pos h];rfl
  .rw[if_neg h]
 | .num s::l=>by simp only[lU,lV,k0 n l]
 | .sg s::l=>by simp only[lU,lV,k0 n l]
def H8:aA:=⟨strOf [102],[(strOf [120],true),(strOf [121],true)],.lock false ⟨strOf [120],none⟩ (.lock false ⟨strOf [121],none⟩ .nil)⟩
def H7:Nat->List Nat->ak
 | _,[]=>.nil
 | i,y::l=>.call true (strOf [102]) [.mx ⟨strOf (GV (i % 4)),none⟩,.mx ⟨strOf (GV y),none⟩] (H7 (i+1) l)
def HH:List bF:=[⟨strOf [97],false,0⟩,⟨strOf [98],false,0⟩,⟨strOf [99],false,0⟩,⟨strOf [100],false,0⟩]
def Jc(a2:List Nat):bD:=⟨[],HH,[H8,⟨strOf [109,97,105,110],[],H7 0 a2⟩]⟩
theorem rg_prog(n:Nat)(a2:List Nat)(aD:2<=a2.length)(cd:a2.length<=5):kp (lV n (uO a2)) 10 0=some ((Jc a2).ae,(Jc a2).funcs):=by
 match a2,aD,cd with
 | [a,b],_,_=>rfl
 | [a,b,c],_,_=>rfl
 | [a,b,c,d],_,_=>rfl
 | [a,b,c,d,e],_,_=>rfl
theorem D6{G:Env}(hm:G.ae=HH)(J:(strOf [102],[(strOf [120],true),(strOf [121],true)])∈G.funcs){d:Nat}{V T:LQ}:∀(a2:List Nat) (i:Nat),(∀y∈a2,y<4)->eM G d V T (H7 i a2)
 | [],_,_=>lF
 | y::l,i,h=>by
  have aQ:∀{x:Nat},x<4->rf G V ⟨strOf (GV x),none⟩:=λ{x} hx=>by
   refine four (P:=λx=>rf G V ⟨strOf (GV x),none⟩) ?_ ?_ ?_ ?_ hx
   .exact .inl ⟨⟨strOf [97],false,0⟩,by rw[hm];simp[HH],rfl,λh=>absurd h (by decide),λ_=>rfl⟩
   .exact .inl ⟨⟨strOf [98],false,0⟩,by rw[hm];simp[HH],rfl,λh=>absurd h (by decide),λ_=>rfl⟩
   .exact .inl ⟨⟨strOf [99],false,0⟩,by rw[hm];simp[HH],rfl,λh=>absurd h (by decide),λ_=>rfl⟩
   .exact .inl ⟨⟨strOf [100],false,0⟩,by rw[hm];simp[HH],rfl,λh=>absurd h (by decide),λ_=>rfl⟩
  have ao:=D6 hm J (d:=d) (V:=V) (T:=T) l (i+1) λz ba=>h z (by simp[ba]);have hc:∃ps,(strOf [102],ps)∈G.funcs/\h2 G V ps [.mx ⟨strOf (GV (i % 4)),none⟩,.mx ⟨strOf (GV y),none⟩]:=⟨_,J,⟨rfl,aQ ab⟩,⟨rfl,aQ (h y (by simp))⟩,trivial⟩
  cases d<;>exact⟨hc,ao⟩
theorem yd:∀(a2:List Nat) (i:Nat),(H7 i a2).num=a2.length
 | [],_=>rfl
 | y::l,i=>by
  have:=yd l (i+1);simp only[H7,ak.num,Lo];omega
theorem rg_wf{a2:List Nat}(h:∀y∈a2,y<4)(cd:a2.length<=5):oK (Jc a2):=by
 refine⟨?_,?_,by show (0:Nat)<=16;decide,by show (4:Nat)<=12;decide,by show (2:Nat)<=16;decide,?_,?_,?_,⟨1,_,rfl,rfl,rfl⟩,?_⟩
 .show ∀s∈[strOf [97],strOf [98],strOf [99],strOf [100],strOf [102],strOf [109,97,105,110]],bq s.data.toList=true
  decide
 .show [strOf [97],strOf [98],strOf [99],strOf [100],strOf [102],strOf [109,97,105,110]].Nodup
  decide
 .intro g aK;cases aK
 .show ∀m∈HH,0<=m.size/\m.size<=64/\(m.re=true->m.size=0)
  decide
 .intro f J;rcases Lr.1 J with rfl|J
  .refine⟨by decide,by decide,?_,?_⟩
   .show [strOf [97],strOf [98],strOf [99],strOf [100],strOf [102],strOf [109,97,105,110],strOf [120],strOf [121]].Nodup
    decide
   .exact⟨.inr ⟨by simp[fo,H8],rfl⟩,.inr ⟨by simp[fo,H8],rfl⟩,trivial⟩
  .rcases Lr.1 J with rfl|J
   .refine⟨(by intro q br;cases br),by show (0:Nat)<=2;decide,?_,?_⟩
    .show ([strOf [97],strOf [98],strOf [99],strOf [100],strOf [102],strOf [109,97,105,110]]++[]).Nodup
     decide
    .exact D6 rfl (by simp[fo,sigs,Jc,H8]) a2 0 h
   .cases J
 .show ([(H8.body).num,(H7 0 a2).num]:List Nat).sum<=64
  have ae:(H8.body).num=2:=by rfl
  simp only[List.sum_cons,List.sum_nil,yd,ae];omega
theorem rg_lex{a2:List Nat}(h:∀y∈a2,y<4)(cd:a2.length<=5):dH ((uO a2).flatMap Atom.bytes)=(lV ((uO a2).flatMap Atom.bytes).length (uO a2),(((uO a2).flatMap Atom.bytes).length:Int),0):=by
 have hl:((uO a2).flatMap Atom.bytes).length<=262144/\Atom.count (uO a2)<=4000:=by
  match a2,cd with
  | [],_=>exact⟨Nat.le_of_ble_eq_true rfl,Nat.le_of_ble_eq_true rfl⟩
  | [a],_=>exact⟨Nat.le_of_ble_eq_true rfl,Nat.le_of_ble_eq_true rfl⟩
  | [a,b],_=>exact⟨Nat.le_of_ble_eq_true rfl,Nat.le_of_ble_eq_true rfl⟩
  | [a,b,c],_=>exact⟨Nat.le_of_ble_eq_true rfl,Nat.le_of_ble_eq_true rfl⟩
  | [a,b,c,d],_=>exact⟨Nat.le_of_ble_eq_true rfl,Nat.le_of_ble_eq_true rfl⟩
  | [a,b,c,d,e],_=>exact⟨Nat.le_of_ble_eq_true rfl,Nat.le_of_ble_eq_true rfl⟩
 unfold dH;rw[if_neg ab,h7 _ _ _ _ (D7 h) (Nat.lt_succ_self _) (by simpa using hl.2),k0];rfl
theorem DY(A:LP)(n c:Nat)(l:List Int)(w:World)(h:cK (EF b5) 1 w w.heap.size A n l)(hc:n<=c):Calls prog 56 #[.slice A n c] w (kj w):=
 Kv A n c l w h hc λK hK=>JF w (.slice A n c) (λax a=>JG w (.slice A n c) _ (λ_ _ d _ _ h=>by cases d<;>exact h) (λaf aQ ae aD=>JH w (.slice A n c) af aQ ae aD) ax a) K hK
def Iq(w:World)(e:Ending)(ac:World):Prop:=∃(u:av) (a3 ao c7 q b4 s:LP) (hq c4 c6 cQ cb ce d0 d1 d2 d3 d4 d5:Nat) (GA:LP) (gn gc:Nat) (MA:LP) (mn mc:Nat) (PA:LP) (pn pc:Nat),e=.returned (.tuple #[.agg #[.slice a3 hq d0,.slice ao c4 d1,.slice c7 c6 d2],.agg #[.slice GA gn gc,.slice MA mn mc,.slice PA pn pc,.int .i64 u.main],.agg #[.slice q cQ d3,.slice b4 cb d4,.slice s ce d5]])/\zo u/\gn<=gc/\mn<=mc/\pn<=pc/\(ua u).rep ac (fresh w ac) [.slice GA gn gc,.slice MA mn mc,.slice PA pn pc,.int .i64 u.main]/\Ext w ac
namespace Cy
theorem fW(h:p:=by
 go_wp2_with(fail);generalize al:World.setCell _ _ _=hM;obtain⟨aw,a8,z⟩:=dR (M:=λ_=>False) (w:=w) [.slice ew n0 c0,.slice cy n1 c1,.slice A2 n2 c2] (by rfl) f bd.1 ab al;have ak:=bd.2.2.1.on z ab;have aG:=bd.2.2.2.on z ab;have bC:Fr (λb=>b<w.heap.size+3) Z hM:=bd.2.1.trans (z.mono λb O=>ab);have bc:=ah a8 bC;clear al a8 z f bC bd bE bg bh;obtain⟨bE,bg,bh⟩:=ak.two;obtain⟨F,ar,av⟩:=aG.two;obtain⟨t0,aI,aJ⟩:=aw.two;refine LK (v:=.tuple #[.agg #[.slice GA gn gc,.slice MA mn mc,.slice FA fn fc],.agg #[.slice s bI bX,.slice r ef da,.slice u I R,.int .i64 (gE p).main],.agg #[.slice ew n0 c0,.slice cy n1 c1,.slice A2 n2 c2]]) (by simp[results,Tryz.results29,go_sem,bE,F,t0]) rfl ?_;refine⟨gE p,?_⟩
 iterate 18 apply Exists.intro
 refine⟨s,bI,bX,r,ef,da,u,I,R,rfl,⟨aR.o,x2 p⟩,?_,?_,?_,?_,bc.1.drew⟩
 iterate 3
  .obtain⟨_,_,_,_,_,_,_,_,_,he,ae,aD,aU,_⟩:=mf P.1;injection he with e1 he;injection he with e2 he;injection he with e3 he;injection e1 with _ ea eb;injection e2 with _ ec ed;injection e3 with _ ee ac;omega
 have U:=bc.2.size;have bZ:(ua (gE p)).rep hM.drew (fresh X aV) [.slice s bI bX,.slice r ef da,.slice u I R,.int .i64 (gE p).main]:=D.aP (λb O=>bc.2.drew.block b (aC O.2) (aC O.1)) _ _ P.1;exact D.aE (λb O=>⟨by have:=O.1;omega,by have:=O.2;show b<hM.heap.size;omega⟩) _ _ bZ
 ):p:=h
end Cy
open Cy in
theorem Ev(A:LP)(n c:Nat)(l:List Int)(w:World)(h:cK (EF b5) 1 w w.heap.size A n l)(hc:n<=c):Calls prog 29 #[.slice A n c] w (Iq w):=by
 have H:=ad h;clear h;go_enter func29,ntmps29;go_upto_region 1 with(fail);generalize be:World.alloc _ _=W;have aE:=nt be;have bF:=lL be;have bW:=jv be;have bK:=Ha be;have cE:W.heap.size=w.heap.size+3:=by rw[<-be];simp
 have y:=H.cS (Fr.ext aE) aE.size;have aH:=bG aE bF bW bK;have bN:=ad y;clear be aE bF bW bK y H;go_wp2_with(fail);refine(DY A n c l W bN.o hc).mono ?_;rintro e aP ⟨p,GA,gn,gc,MA,mn,mc,FA,fn,fc,rfl,a1,am,cq,o,aK,hm,J,aF⟩;have H1:=dq a1 aK hm J aF;have b6:=aF.size;clear a1 aK hm J aF bN;go_upto_region 2 with(fail);generalize hX:World.alloc _ _=X;have aY:=aT hX;have a4:=bb hX;have f2:=a4.size;have ay:=aY.lt;obtain⟨d0,af,aS⟩:=aY.two;have m:hh X (au X) p GA gn MA mn FA fn:=⟨(Sl.ai H1.2.1 λb O=>a4.block b O.2 (λh=>h)).mono λb O=>Lc O.2 f2,(Sl.ai H1.2.2.1 λb O=>a4.block b O.2 (λh=>h)).mono λb O=>Lc O.2 f2,(Sl.ai H1.2.2.2.1 λb O=>a4.block b O.2 (λh=>h)).mono λb O=>Lc O.2 f2⟩
 have bV:=aL m aY (H1.2.2.2.2.trans a4);clear hX aY a4 m;go_wp2_with(fail);refine(DI p H1.1 GA gn gc MA mn mc FA fn fc X bV.1).mono ?_;rintro e aV ⟨s,bI,bX,r,ef,da,u,I,R,rfl,bO,a2⟩;have bv:=a2.size;have ag:=bV.2.1.aj a2;have bt:=aL bO ag (bV.2.2.trans a2);clear bO a2 ag d0 af aS;go_upto_region 3 with(fail);generalize b7:World.alloc _ _=Y;have a6:=aT b7;have i:=bb b7;have bQ:=i.size;have az:=a6.lt;obtain⟨d0,af,aS⟩:=a6.two;have bO:(ua (gE p)).rep Y (fresh X aV) [.slice s bI bX,.slice r ef da,.slice u I R,.int .i64 (gE p).main]:=D.aP (λb O=>i.block b O.2 (λh=>h)) _ _ bt.1;have ap:hj Y (au Y) (gE p) s bI r ef u I:=by
  obtain⟨_,_,_,_,_,_,_,_,_,he,_,_,_,hu⟩:=mf (D.aE (bf:=au Y) (λb O=>Lc O.2 bQ) _ _ bO);injection he with ae he;injection he with aD he;injection he with aU he;injection ae with aW O hc;injection aD with g a9 bR;injection aU with S aA N;subst aW O g a9 S aA;exact hu
 have G:=dq bO ap a6 (bt.2.1.aj i) (bt.2.2.trans i);have aR:=ad (x1 H1.1);clear b7 a6 i bO ap bt;go_wp2_with(fail);refine(yx (gE p) aR.o s bI bX r ef da u I R Y G.2.1).mono ?_;rintro e b3 ⟨ew,n0,c0,cy,n1,c1,A2,n2,c2,k,rfl,bu⟩;have cC:=bu.size;have ao:=bG (D.aP (λb O=>bu.block b (Lc O.2 bQ) (λh=>h)) _ _ G.1) (G.2.2.1.aj bu) (G.2.2.2.1.aj bu) (G.2.2.2.2.trans bu);clear bu d0 af aS G;go_upto_region 4 with(fail);generalize bD:World.alloc _ _=Z;have cz:=aT bD;have L:=bb bD;have gG:=L.size;have gG:=L.size;have bO:=D.aP (λb O=>L.block b (Lc O.2 (Ls bQ cC)) (λh=>h)) _ _ ao.1;have a6:=ao.2.1.aj L;have aY:=ao.2.2.1.aj L;have T:Ext W Z:=ao.2.2.2.trans L;have Q:=aH.2.1.aj T;have ba:=aH.2.2.1.aj T;have f:=aH.2.2.2.aj T;have P:=ah bO (aH.1.trans T);have bx:=aL aY a6 cz;have aZ:=ah ba f;obtain⟨bE,bg,bh⟩:=Q.two;have ax:=cz.lt;clear bD L bO ao T ba f aY a6 cz;refine eU (λb=>b<w.heap.size+3) [(0,0),(1,0),(2,0),(3,1),(4,1),(5,2)] ?_;refine bH (v:=?_) rfl (by rfl) (λV hV=>?_) ?_;rotate_left
 .obtain⟨d0,af,aS⟩:=(bx.1.on (Fr.aQ hV) ab).two
  (go_simp<;>with_reducible rfl)
 try simp only[PU]
 refine bH (v:=?_) rfl (by rfl) (λV hV=>?_) ?_;rotate_left
 .obtain⟨d0,af,aS⟩:=(bx.2.1.on (Fr.aQ hV) ab).two
  (go_simp<;>with_reducible rfl)
 try simp only[PU]
 refine bH (v:=?_) rfl (by rfl) (λV hV=>?_) ?_;rotate_left
 .obtain⟨d0,af,aS⟩:=(bx.2.2.on (Fr.aQ hV) ab).two
  (go_simp<;>with_reducible rfl)
 try simp only[PU]
 refine aO rfl (λK hK=>?_);go_simp;refine ei hK (((LL.setCell (.inl (by show w.heap.size<w.heap.size+3;omega)) _).setCell (.inl (by show w.heap.size<w.heap.size+3;omega)) _).setCell (.inl (by show w.heap.size<w.heap.size+3;omega)) _) ?_;clear hK K;generalize ai:World.setCell _ _ _=db;obtain⟨ak,a2,aa⟩:=dR (M:=λ_=>False) (w:=w) [.slice GA gn gc,.slice MA mn mc,.slice FA fn fc] (by rfl) Q P.2 (Lb _) ai;have ba:=aZ.1.on aa ab;have f:=aZ.2.on aa ab;have j:=bG a2 (Fr.mono (M':=λb=>b<w.heap.size+3) aa λb O=>ab) ak f;clear ai a2 aa ak f Q bE bg bh;obtain⟨bE,bg,bh⟩:=ba.two;refine aO rfl (λK hK=>?_);go_simp;refine ei hK (((LL.setCell (.inl (by show w.heap.size+1<w.heap.size+3;omega)) _).setCell (.inl (by show w.heap.size+1<w.heap.size+3;omega)) _).setCell (.inl (by show w.heap.size+1<w.heap.size+3;omega)) _ |>.setCell (.inl (by show w.heap.size+1<w.heap.size+3;omega)) _) ?_;clear hK K;generalize aj:World.setCell _ _ _=g9;obtain⟨aG,bu,cl⟩:=dR (M:=λ_=>False) (w:=w) [.slice s bI bX,.slice r ef da,.slice u I R,.int .i64 (gE p).main] (by rfl) ba j.1 ab aj;have f:=j.2.2.2.on cl ab;have bd:=bG bu (j.2.1.trans (cl.mono λb O=>ab)) (j.2.2.1.on cl ab) aG;clear aj bu cl aG ba j bE bg bh;obtain⟨bE,bg,bh⟩:=f.two;exact fV
theorem FX{u:av}{GA MA PA:LP}{gn gc mn mc pn pc:Nat}{m:Int}(h:(ua u).rep w P [.slice GA gn gc,.slice MA mn mc,.slice PA pn pc,.int .i64 m])(aY:∀b,P b->b<w.heap.size):(⟨GA,gn,gc,MA,mn,mc,PA,pn,pc⟩:UV).Ok w u:=by
 obtain⟨_,_,_,_,_,_,_,_,_,he,ae,aD,aU,hu⟩:=mf (D.aE (bf:=au w) aY _ _ h);injection he with e1 he;injection he with e2 he;injection he with e3 he;injection e1 with i y a3;injection e2 with ao c7 q;injection e3 with c1 c2 c3;subst i y a3 ao c7 q c1 c2 c3;exact⟨hu,ae,aD,aU⟩
def Ir(P:av->ag->Prop)(w:World)(e:Ending)(ac:World):Prop:=∃(u:av) (s:ag) (p:UV) (q:SV),e=.returned (.tuple #[.agg (p.val u),.agg (q.val s)])/\P u s/\jT u s 60 ac p q/\Ext w ac
namespace CM
theorem fW(h:p:=by
 generalize bD:World.setCell _ _ _=Z;obtain⟨bH,bn,bC⟩:=cm (w:=w) [.slice bM b2 bo,.slice TA tn tc,.slice HA hn bR,.int .i64 S.fault] (by rfl) bP.2.2.2 bP.2.1 ab bD;have bc:=bG bn (Fr.trans (bP.2.2.1.mono λ_ h=>.inl h) (bC.mono λ_ h=>.inr h):Fr (λb=>b=w.heap.size\/b=w.heap.size+1) aV Z) (bP.1.on bC ab) bH;clear bD bH bn bC aY j r bP;obtain⟨bE,bg,bh⟩:=bc.2.2.1.two;obtain⟨F,ar,av⟩:=bc.2.2.2.two;go_wp2_with(fail);refine LK (v:=.tuple #[.agg #[.slice GA gn gc,.slice MA mn mc,.slice PA pn pc,.int .i64 u.main],.agg #[.slice bM b2 bo,.slice TA tn tc,.slice HA hn bR,.int .i64 S.fault]]) (by simp[results,Tryz.results9,go_sem,bE,F]) rfl ?_;have ai:∀b,W.heap.size<=b->b<aV.heap.size->Z.heap[b]?=aV.heap[b]?:=λb ae aD=>bc.2.1.block b aD λh=>by rcases h with h|h<;>omega
 have bB:=bc.2.1.size;have R:=H1.2.2.1.size;have x:=aR.2.1.size;have o:∀b,W.heap.size<=b->b<aP.heap.size->Z.heap[b]?=aP.heap[b]?:=λb ae aD=>(ai b ae ab).trans (i.block b aD λh=>h);refine⟨u,S,⟨GA,gn,gc,MA,mn,mc,PA,pn,pc⟩,⟨bM,b2,bo,TA,tn,tc,HA,hn,bR⟩,rfl,trivial,⟨H1.1,bt.2.2,ab,FX (P:=fresh W aP) (D.aP (λb O=>o b O.1 O.2) _ _ H1.2.2.2) λb O=>by have:=O.2;omega,(SV.Is.ai bt.1 λb O=>ai b (by have:=O.1;have hd:X.drew.heap.size=X.heap.size:=rfl;omega) O.2).ok λb O=>by have:=O.2;omega⟩,bc.1⟩
 ):p:=h
end CM
open CM in
theorem state_any(A B:LP)(n c m d:Nat)(l aA:List Int)(w:World)(h:cK (EF b5) 1 w w.heap.size A n l)(hp:cK (EF b5) 1 w w.heap.size B m aA)(hc:n<=c) :
  Calls prog 9 #[.slice A n c,.slice B m d] w (Ir (λ_ _=>True) w):=by
 have H:=ah h hp;clear h hp;go_enter func9,ntmps9;go_upto_region 1 with(fail);generalize be:World.alloc _ _=W;have aE:=im be;have ci:=fU be;have ca:=fL be;have cE:=ca.lt;have aH:=dq aE ci ca (H.1.cS (Fr.ext aE) aE.size) (H.2.cS (Fr.ext aE) aE.size);clear be aE ci ca;go_wp2_with(fail);refine(Ev A n c l W aH.2.2.2.1 hc).mono ?_;rintro e aP ⟨u,a3,ao,c7,q,b4,s,hq,c4,c6,cQ,cb,ce,d0,d1,d2,d3,d4,d5,GA,gn,gc,MA,mn,mc,PA,pn,pc,rfl,hU,_,_,_,bO,aF⟩;have g:(⟨GA,gn,gc,MA,mn,mc,PA,pn,pc⟩:UV).Ok aP u:=FX bO λb O=>O.2;have H1:=bG hU g aF bO;clear hU g aF bO;go_upto_region 2 with(fail);generalize hX:World.alloc _ _=X;have bq:=nt hX;have bw:=jv hX;have bI:=bw.lt;have aR:=bG (H1.2.1.on bq) (H1.2.2.1.trans bq) bw (aH.2.2.2.2.cS (Fr.ext (H1.2.2.1.trans bq)) (H1.2.2.1.trans bq).size);obtain⟨bs,a7,bS⟩:=bw.two;have k:=ad bq;clear hX bq bw;refine eU (λ_=>False) [(0,0),(1,0),(2,3),(3,1),(4,2),(5,2)] ?_
 iterate 2 refine ph ?_
 refine pf ?_;refine aO rfl (λK hK=>?_);go_simp;refine(wA u ⟨GA,gn,gc,MA,mn,mc,PA,pn,pc⟩ B m d aA X.drew H1.1 (aR.1.on (Fr.refl _ X).drew) (aR.2.2.2.cS (Fr.ext (Fr.refl _ X).drew) (Lb _))).mono ?_;rintro e aV ⟨⟨bM,b2,bo,TA,tn,tc,HA,hn,bR⟩,rfl,br,a2⟩;have cc:=FQ u H1.1 aA;generalize iO u (eK u) (bU aA 60)=S at *;have f:Ext X aV:=Fr.aQ a2;have bt:=aL br f cc;have i:=ad (k.trans f);have bv:=f.size;dsimp only[SV.val];refine ei hK (a2) ?_;clear hK K;clear br a2 f cc bs a7 bS;have af:=(aR.2.1.trans bt.2.1)
 have ci:=aH.2.1.aj af;have ca:=aH.2.2.1.aj af;have np:=af.size;have bx:=aL ci ca af;obtain⟨cu,y,ag⟩:=ci.two;clear ci ca af;refine aq rfl (λK hK=>?_);go_simp;refine eL hK ?_;clear hK K;generalize b7:World.setCell _ _ _=Y;obtain⟨bz,bA,bj⟩:=cm (w:=w) [.slice GA gn gc,.slice MA mn mc,.slice PA pn pc,.int .i64 u.main] (by rfl) bx.1 (aH.1.trans bx.2.2) ab b7;have ca:=bx.2.1.on bj ab;have cy:=bj.size;have bP:=bG bz bA bj ca;obtain⟨aY,j,r⟩:=ca.two;clear b7 bz bA bj ca cu y ag;exact fV
def cr:ByteArray:=⟨#[109,117,116,101,120,32,97,59,32,109,117,116,101,120,32,98,59,32,102,117,110,99,32,109,97,105,110,40,41,32,123,32,103,111,32,102,40,41,59,32,108,111,99,107,32,97,59,32,108,111,99,107,32,98,59,32,125,32,102,117,110,99,32,102,40,41,32,123,32,108,111,99,107,32,98,59,32,108,111,99,107,32,97,59,32,125]⟩
def ID:ByteArray:=strOf [97]
def IE:ByteArray:=strOf [98]
def JY:ByteArray:=strOf [102]
def J0:aA:=⟨strOf [109,97,105,110],[],.call true JY [] (.lock false ⟨ID,none⟩ (.lock false ⟨IE,none⟩ .nil))⟩
def JZ:aA:=⟨JY,[],.lock false ⟨IE,none⟩ (.lock false ⟨ID,none⟩ .nil)⟩
def tR:bD:=⟨[],[⟨ID,false,0⟩,⟨IE,false,0⟩],[J0,JZ]⟩
theorem v3:(dH cr.data.toList).1.length<=4001/\0<(dH cr.data.toList).1.length/\(dH cr.data.toList).2.2=0:=by decide +kernel
theorem EZ:kp (dH cr.data.toList).1 10 0=some (tR.ae,tR.funcs):=by rfl
theorem GM:oK tR:=by
 refine⟨?_,?_,by decide,by decide,by decide,?_,?_,?_,⟨0,_,rfl,rfl,rfl⟩,by decide⟩
 .decide
 .decide
 .decide
 .decide
 .intro f J;have aQ:∀(f:aA) (V:LQ) (n:ByteArray),n=ID\/n=IE->rf (fo tR f) V ⟨n,none⟩:=λf V n hn=>by
   rcases hn with rfl|rfl
   .exact .inl ⟨⟨ID,false,0⟩,by simp[fo,tR],rfl,λh=>absurd h (by decide),λ_=>rfl⟩
   .exact .inl ⟨⟨IE,false,0⟩,by simp[fo,tR],rfl,λh=>absurd h (by decide),λ_=>rfl⟩
  simp only[tR,Lr,List.not_mem_nil,or_false] at J;rcases J with rfl|rfl
  .refine⟨by decide,by decide,by decide,?_⟩;exact⟨⟨[],by simp[fo,tR,J0,JZ,sigs],trivial⟩,aQ _ _ _ (.inl rfl),aQ _ _ _ (.inr rfl),trivial⟩
  .refine⟨by decide,by decide,by decide,?_⟩;exact⟨aQ _ _ _ (.inr rfl),aQ _ _ _ (.inl rfl),trivial⟩
def tG:av:=gE tR
theorem sP:zo tG:=⟨x1 GM,x2 tR⟩
def vn:ag:=iO tG (eK tG) [0,0,1]
theorem Ho:aS tG 60 vn:=(tr sP.ok [0,0,1] 0 (eK tG) (ta sP.ok)).mono (by decide)
theorem E0:cR tG vn 0=some (1,1):=by decide +kernel
theorem IF:vo tG vn 0=false:=by decide +kernel
theorem Hp:ma (aI tG vn)=[0,1]:=by decide +kernel
theorem EY:gx (aI tG vn)=[0,1]:=by decide +kernel
theorem C9:jn tG vn=true:=by decide +kernel
theorem Hq(w:World)(t:TypeId)(sp:Nat×Nat):fb (w.alloc (.cells #[.int .u8 109,.int .u8 117,.int .u8 116,.int .u8 101,.int .u8 120,.int .u8 32,.int .u8 97,.int .u8 59,.int .u8 32,.int .u8 109,.int .u8 117,.int .u8 116,.int .u8 101,.int .u8 120,.int .u8 32,.int .u8 98,.int .u8 59,.int .u8 32,.int .u8 102,.int .u8 117,.int .u8 110,.int .u8 99,.int .u8 32,.int .u8 109,.int .u8 97,.int .u8 105,.int .u8 110,.int .u8 40,.int .u8 41,.int .u8 32,.int .u8 123,.int .u8 32,.int .u8 103,.int .u8 111,.int .u8 32,.int .u8 102,.int .u8 40,.int .u8 41,.int .u8 59,.int .u8 32,.int .u8 108,.int .u8 111,.int .u8 99,.int .u8 107,.int .u8 32,.int .u8 97,.int .u8 59,.int .u8 32,.int .u8 108,.int .u8 111,.int .u8 99,.int .u8 107,.int .u8 32,.int .u8 98,.int .u8 59,.int .u8 32,.int .u8 125,.int .u8 32,.int .u8 102,.int .u8 117,.int .u8 110,.int .u8 99,.int .u8 32,.int .u8 102,.int .u8 40,.int .u8 41,.int .u8 32,.int .u8 123,.int .u8 32,.int .u8 108,.int .u8 111,.int .u8 99,.int .u8 107,.int .u8 32,.int .u8 98,.int .u8 59,.int .u8 32,.int .u8 108,.int .u8 111,.int .u8 99,.int .u8 107,.int .u8 32,.int .u8 97,.int .u8 59,.int .u8 32,.int .u8 125] t sp)) w.heap.size 0 86 cr:=by
 have hc:(#[.int .u8 109,.int .u8 117,.int .u8 116,.int .u8 101,.int .u8 120,.int .u8 32,.int .u8 97,.int .u8 59,.int .u8 32,.int .u8 109,.int .u8 117,.int .u8 116,.int .u8 101,.int .u8 120,.int .u8 32,.int .u8 98,.int .u8 59,.int .u8 32,.int .u8 102,.int .u8 117,.int .u8 110,.int .u8 99,.int .u8 32,.int .u8 109,.int .u8 97,.int .u8 105,.int .u8 110,.int .u8 40,.int .u8 41,.int .u8 32,.int .u8 123,.int .u8 32,.int .u8 103,.int .u8 111,.int .u8 32,.int .u8 102,.int .u8 40,.int .u8 41,.int .u8 59,.int .u8 32,.int .u8 108,.int .u8 111,.int .u8 99,.int .u8 107,.int .u8 32,.int .u8 97,.int .u8 59,.int .u8 32,.int .u8 108,.int .u8 111,.int .u8 99,.int .u8 107,.int .u8 32,.int .u8 98,.int .u8 59,.int .u8 32,.int .u8 125,.int .u8 32,.int .u8 102,.int .u8 117,.int .u8 110,.int .u8 99,.int .u8 32,.int .u8 102,.int .u8 40,.int .u8 41,.int .u8 32,.int .u8 123,.int .u8 32,.int .u8 108,.int .u8 111,.int .u8 99,.int .u8 107,.int .u8 32,.int .u8 98,.int .u8 59,.int .u8 32,.int .u8 108,.int .u8 111,.int .u8 99,.int .u8 107,.int .u8 32,.int .u8 97,.int .u8 59,.int .u8 32,.int .u8 125]:Array Value)=cr.data.map λc=>.int .u8 (c.toNat:Int):=by kernel_rfl
 refine⟨λi ak=>?_,by simp,by decide,by decide⟩;rw[Lt,cell_of_row _ _ i _ t sp (heap_alloc_new w _),hc,Array.getElem?_map,Array.getElem?_eq_getElem (by simpa using ak)];rfl
theorem JO(h:an w g t #[.int .i64 0,.int .i64 0,.int .i64 1]):cK (EF b5) 1 w w.heap.size (some ⟨g,0,none⟩) 3 [0,0,1]:=
 Sl.ints (Sl.nG (l:=[D.i 0,D.i 0,D.i 1]) (cs:=[.int .i64 0,.int .i64 0,.int .i64 1]) h (by simp only[D.aJ,D.rep];simp) h.lt rfl)
theorem I2(h:an w g t #[.int .i64 0,.int .i64 1]):Sl w (au w) (some ⟨g,0,none⟩) 2 ([0,1].map D.i):=
 Sl.nG (l:=[D.i 0,D.i 1]) (cs:=[.int .i64 0,.int .i64 1]) h (by simp only[D.aJ,D.rep];simp) h.lt rfl
namespace CN
theorem fW(h:p:=by
 generalize bD:World.setCell _ _ _=Z;obtain⟨bH,bn,bC⟩:=cm (w:=w) [.slice bM b2 bo,.slice TA tn tc,.slice QA cg qc,.int .i64 vn.fault] (by rfl) a8.2.2.2 a8.2.1 ab bD;have ai:∀b,W.heap.size<=b->b<C.heap.size->Z.drew.heap[b]?=C.heap[b]?:=λb ae aD=>(bC.block b ab ab).trans (a8.2.2.1.block b aD ab);have bB:C.heap.size<=Z.drew.heap.size:=by have ae:=bC.size;have hd:Z.drew.heap.size=Z.heap.size:=rfl;omega
 have bc:=bG bn.drew ai (a8.1.on bC ab).drew bH.drew;clear bD bH bn bC ai aY j r c0 cK cI d0 af aS;obtain⟨bE,bg,bh⟩:=bc.2.2.1.two;obtain⟨F,ar,av⟩:=bc.2.2.2.two;go_wp2_with(fail);refine LK (v:=.tuple #[.agg #[.slice GA gn gc,.slice I bl aa,.slice PA pn pc,.int .i64 (gE tR).main],.agg #[.slice bM b2 bo,.slice TA tn tc,.slice QA cg qc,.int .i64 vn.fault]]) (by simp[results,Tryz.results38,go_sem,bE,F]) rfl ?_;have b5:=aR.2.size;have aU:∀b,W.heap.size<=b->b<b3.heap.size->Z.drew.heap[b]?=b3.heap[b]?:=λb ae aD=>(bc.2.1 b ae ab).trans (bQ.2.2.1.block b aD λh=>h);exact⟨⟨GA,gn,gc,I,bl,aa,PA,pn,pc⟩,⟨bM,b2,bo,TA,tn,tc,QA,cg,qc⟩,rfl,⟨sP,Ho,ab,FX (P:=fresh X aV) (D.aP (λb O=>aU b (aC O.1) (aC O.2)) _ _ ao.1) λb O=>by have:=O.2;omega,(SV.Is.ai ao.2.1 λb O=>aU b (aC O.1) O.2).ok λb O=>by have:=O.2;omega⟩,bc.1⟩
 ):p:=h
end CN
open CN in
theorem tS(w:World):Calls prog 38 #[] w λe ac=>∃(p:UV) (q:SV),e=.returned (.tuple #[.agg (p.val tG),.agg (q.val vn)])/\jT tG vn 60 ac p q/\Ext w ac:=by
 go_enter func38,ntmps38;go_upto_region 1 with(fail);generalize be:World.alloc _ _=W;have aE:=im be;have ci:=fU be;have ca:=fL be;have cE:=ca.lt;have aH:=aL aE ci ca;clear be aE ci ca;have kc:=Lib.run_convert_bytes_const (P:=prog) W 78 5 #[.int .u8 109,.int .u8 117,.int .u8 116,.int .u8 101,.int .u8 120,.int .u8 32,.int .u8 97,.int .u8 59,.int .u8 32,.int .u8 109,.int .u8 117,.int .u8 116,.int .u8 101,.int .u8 120,.int .u8 32,.int .u8 98,.int .u8 59,.int .u8 32,.int .u8 102,.int .u8 117,.int .u8 110,.int .u8 99,.int .u8 32,.int .u8 109,.int .u8 97,.int .u8 105,.int .u8 110,.int .u8 40,.int .u8 41,.int .u8 32,.int .u8 123,.int .u8 32,.int .u8 103,.int .u8 111,.int .u8 32,.int .u8 102,.int .u8 40,.int .u8 41,.int .u8 59,.int .u8 32,.int .u8 108,.int .u8 111,.int .u8 99,.int .u8 107,.int .u8 32,.int .u8 97,.int .u8 59,.int .u8 32,.int .u8 108,.int .u8 111,.int .u8 99,.int .u8 107,.int .u8 32,.int .u8 98,.int .u8 59,.int .u8 32,.int .u8 125,.int .u8 32,.int .u8 102,.int .u8 117,.int .u8 110,.int .u8 99,.int .u8 32,.int .u8 102,.int .u8 40,.int .u8 41,.int .u8 32,.int .u8 123,.int .u8 32,.int .u8 108,.int .u8 111,.int .u8 99,.int .u8 107,.int .u8 32,.int .u8 98,.int .u8 59,.int .u8 32,.int .u8 108,.int .u8 111,.int .u8 99,.int .u8 107,.int .u8 32,.int .u8 97,.int .u8 59,.int .u8 32,.int .u8 125] 86 86 Tryz.underlying78 Tryz.underlying5;go_wp2_with(fail);clear kc;generalize hV:World.alloc _ _=V;have hT:fb V W.heap.size 0 86 cr:=hV▸Hq W _ _;have L:=bb hV;clear hV
 have ch:=ah hT L;clear hT L;refine(y2 cr W.heap.size 0 86 V tR.ae tR.funcs 10 ch.1 (by decide) v3.1 v3.2.1 v3.2.2 EZ (by decide) (by decide)).mono ?_;rintro e aP ⟨MA,mn,mc,FA,fn,fc,z,rfl,m,cq,o,aF⟩;have H1:=ah m (ch.2.trans aF);have b6:=(ch.2.trans aF).size;clear m aF cq o;go_upto_region 2 with(fail);generalize hX:World.alloc _ _=X;have bq:=bb hX;have bw:=aT hX;have m:hh X (au X) tR none 0 MA mn FA fn:=by
  have ai:∀b,fresh V aP b->X.heap[b]?=aP.heap[b]?:=λb O=>bq.block b O.2 λh=>h;have hm:∀b,fresh V aP b->au X b:=λb O=>Lc O.2 bq.size;exact⟨Sl.bN _,(H1.1.m.ai ai).mono hm,(H1.1.f.ai ai).mono hm⟩
 have aR:=ah m (H1.2.trans bq);obtain⟨bs,a7,bS⟩:=bw.two;clear hX bq bw m;go_wp2_with(fail);refine(DI tR GM none 0 0 MA mn mc FA fn fc X aR.1).mono ?_;rintro e aV ⟨GA,gn,gc,I,bl,aa,PA,pn,pc,rfl,bO,a2⟩;have bt:=ah bO (aR.2.trans a2);have bv:=a2.size;clear bO a2 bs a7 bS;go_upto_region 3 with(fail);generalize b7:World.alloc _ _=Y;have bA:=bb b7;have bz:=aT b7;have cy:=bz.lt;have G:=D.aP (λb (O:fresh X aV b)=>bA.block b O.2 λh=>h) _ _ bt.1;have bP:=aL G (bt.2.trans bA) bz;obtain⟨cu,y,ag⟩:=bz.two;clear b7 bA bz G;go_wp2_with(fail);generalize bp:World.alloc _ _=A;have n:=bb bp;have ak:=aT bp;have u:=D.aP (λb (O:fresh X aV b)=>n.block b (aC O.2) λh=>h) _ _ bP.1;have HA:=bG u (bP.2.1.trans n) (JO ak) n;have bZ:=n.size;clear bp n ak u cu y ag;refine(I3 tG [0,0,1] (some ⟨Y.heap.size,0,none⟩) 3 3 A ⟨GA,gn,gc,I,bl,aa,PA,pn,pc⟩ sP (FX (P:=fresh X aV) HA.1 λb O=>by have:=O.2;omega) HA.2.2.1 ab).mono ?_;rintro e b3 ⟨⟨bM,b2,bo,TA,tn,tc,QA,cg,qc⟩,rfl,br,bu⟩;have eT:=D.aP (λb (O:fresh X aV b)=>bu.block b (aC O.2) λh=>h) _ _ HA.1;have ao:=bG eT (show (⟨bM,b2,bo,TA,tn,tc,QA,cg,qc⟩:SV).Is b3 (λk=>A.heap.size<=k/\k<b3.heap.size) vn from br) (HA.2.1.trans bu) (HA.2.2.2.trans bu);have cC:=bu.size;clear br bu eT;dsimp only[SV.val];go_upto_region 4 with(fail);generalize hC:World.alloc _ _=C;have f:=bb hC;have dy:=aT hC;have i:=ao.2.2.1.trans f;have H:=f.size;have np:=i.size;have bQ:=bG (aH.2.1.aj i) (aH.2.2.aj i) f (aH.1.trans i)
 obtain⟨c0,cK,cI⟩:=(bP.2.2.aj (ao.2.2.2.trans f)).two;obtain⟨d0,af,aS⟩:=dy.two;obtain⟨cu,y,ag⟩:=bQ.1.two;clear hC f dy i;have cP:¬aV.heap.size=w.heap.size:=by have:=aR.2.size;omega
 have cl:¬b3.heap.size=w.heap.size:=by have:=aR.2.size;omega
 refine eU (λb=>b=w.heap.size) [(0,0),(1,0),(2,1),(3,2)] ?_
 iterate 2 refine qF ?_
 refine aO rfl (λK hK=>?_);go_simp;refine ei hK (kL (g:=w.heap.size) [.slice GA gn gc,.slice I bl aa,.slice PA pn pc,.int .i64 (gE tR).main] 0 C.drew) ?_;clear hK K;generalize aE:World.setCell _ _ _=E;obtain⟨cJ,s,l⟩:=cm (w:=w) [.slice GA gn gc,.slice I bl aa,.slice PA pn pc,.int .i64 (gE tR).main] (by rfl) bQ.1 bQ.2.2.2 ab aE;have ca:=bQ.2.1.on l ab;have a8:=bG cJ s l ca;have aX:=l.size;obtain⟨aY,j,r⟩:=ca.two;clear aE cJ s l ca cu y ag;exact fV
theorem awake11(w:World):Calls prog 16 #[] w λe ac=>e=.returned (.bool true)/\Ext w ac:=by
 go_enter func16,ntmps16;go_wp2_with(fail);refine(tS w).mono ?_;rintro e aP ⟨⟨GA,gn,gc,MA,mn,mc,PA,pn,pc⟩,⟨bM,b2,bo,TA,tn,tc,HA,hn,hc⟩,rfl,g,aF⟩;have H1:=ah g aF;clear g aF;dsimp only[UV.val,SV.val];go_upto_region 2 with(fail);generalize hX:World.alloc _ _=X;have bq:=im hX;have bK:=fU hX;have aY:=fL hX;have aR:=bG (H1.1.on bq) (H1.2.trans bq) bK aY;obtain⟨bs,a7,bS⟩:=bK.two;obtain⟨cu,y,ag⟩:=aY.two;clear hX bq bK aY;go_wp2_with(fail);refine(waiting_any false tG vn 0 60 X ⟨GA,gn,gc,MA,mn,mc,PA,pn,pc⟩ ⟨bM,b2,bo,TA,tn,tc,HA,hn,hc⟩ aR.1).mono ?_;rintro e aV ⟨rfl,a2⟩;rw[E0];dsimp only[Option.map,Option.getD,Option.isSome];have bt:=ad a2;clear a2 bs a7 bS cu y ag;obtain⟨bs,a7,bS⟩:=(aR.2.2.1.aj bt.o).two;obtain⟨cu,y,ag⟩:=(aR.2.2.2.aj bt.o).two;go_wp2_with(fail);refine(enabled_any false tG vn 0 60 aV ⟨GA,gn,gc,MA,mn,mc,PA,pn,pc⟩ ⟨bM,b2,bo,TA,tn,tc,HA,hn,hc⟩ (aR.1.on bt.o)).mono ?_;rintro e b3 ⟨rfl,bu⟩;rw[IF];have ao:=ad (bt.trans bu);clear bu bs a7 bS cu y ag;obtain⟨bs,a7,bS⟩:=(aR.2.2.1.aj ao.o).two;obtain⟨cu,y,ag⟩:=(aR.2.2.2.aj ao.o).two;go_wp2_with(fail);refine(mcycle tG vn 60 b3 ⟨GA,gn,gc,MA,mn,mc,PA,pn,pc⟩ ⟨bM,b2,bo,TA,tn,tc,HA,hn,hc⟩ (aR.1.on ao.o)).mono ?_;rintro e cz ⟨A,c,rfl,_,bZ,a8⟩;rw[Hp] at bZ ⊢;have P:=ah bZ (ao.trans a8);clear bZ a8 bs a7 bS cu y ag;go_wp2_with(fail);generalize b7:World.alloc _ _=Y;have bA:=bb b7;have bz:=aT b7
 refine(j9 A (some ⟨cz.heap.size,0,none⟩) 2 c 2 2 [0,1] [0,1] Y ((P.1.cS (Fr.ext bA) bA.size).ints λb O=>O) (I2 bz) ab).mono ?_;rintro e b5 ⟨rfl,aC⟩;have bV:=ad ((P.2.trans bA).trans (Fr.of aC));clear b7 bA bz aC;obtain⟨bs,a7,bS⟩:=(aR.2.2.1.aj bV.o).two;obtain⟨cu,y,ag⟩:=(aR.2.2.2.aj bV.o).two;rw[show decide (([0,1]:List Int)=[0,1])=true from rfl];go_wp2_with(fail);refine(mdead tG vn 60 b5 ⟨GA,gn,gc,MA,mn,mc,PA,pn,pc⟩ ⟨bM,b2,bo,TA,tn,tc,HA,hn,hc⟩ (aR.1.on bV.o)).mono ?_;rintro e cx ⟨A2,c2,rfl,_,bZ,i⟩;rw[EY] at bZ ⊢;have G:=ah bZ (bV.trans i);clear bZ i bs a7 bS cu y ag;go_wp2_with(fail);generalize b7:World.alloc _ _=g9;have bA:=bb b7;have bz:=aT b7;refine(j9 A2 (some ⟨cx.heap.size,0,none⟩) 2 c2 2 2 [0,1] [0,1] g9 ((G.1.cS (Fr.ext bA) bA.size).ints λb O=>O) (I2 bz) ab).mono ?_;rintro e gL ⟨rfl,f⟩;have q:=ad ((G.2.trans bA).trans (Fr.of f));clear b7 bA bz f;obtain⟨bs,a7,bS⟩:=(aR.2.2.1.aj q.o).two;obtain⟨cu,y,ag⟩:=(aR.2.2.2.aj q.o).two;rw[show decide (([0,1]:List Int)=[0,1])=true from rfl];go_wp2_with(fail);refine(mquiet tG vn 60 gL ⟨GA,gn,gc,MA,mn,mc,PA,pn,pc⟩ ⟨bM,b2,bo,TA,tn,tc,HA,hn,hc⟩ (aR.1.on q.o)).mono ?_;rintro e gR ⟨rfl,b4⟩;rw[C9];have cV:=ad ((aR.2.1.trans q.o).trans b4);clear b4 bs a7 bS cu y ag;go_wp2_with(fail);go_ret;exact⟨rfl,cV.o⟩
end Go.Proofs.YtflecliffjbleaaGreat
