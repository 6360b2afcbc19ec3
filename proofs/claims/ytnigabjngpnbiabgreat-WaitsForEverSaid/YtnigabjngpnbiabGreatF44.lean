/- Part 44. No condition. -/
import Derived.Test.YtnigabjngpnbiabGreatF42
namespace Go.Proofs.YtnigabjngpnbiabGreat
open Go.RowKit Go.Proofs.Tryz
set_option maxRecDepth 1000000
set_option maxHeartbeats 25600000
set_option linter.unusedVariables false
variable{a:Atom}{g:Nat}{F:Nat->Bool}{P:Nat->Prop}{p:Prop}{w:World}
def Gs(y:Nat):List UInt8:=[UInt8.ofNat (97+y)]
def KV:List Atom:=[.word [109,117,116,101,120],.ws 32,.word [97],.sg [59],.ws 32,.word [109,117,116,101,120],.ws 32,.word [98],.sg [59],.ws 32,.word [109,117,116,101,120],.ws 32,.word [99],.sg [59],.ws 32,.word [109,117,116,101,120],.ws 32,.word [100],.sg [59],.ws 32,.word [102,117,110,99],.ws 32,.word [102],.sg [40],.word [109,117,116,101,120],.ws 32,.word [120],.sg [44],.ws 32,.word [109,117,116,101,120],.ws 32,.word [121],.sg [41],.ws 32,.sg [123],.ws 32,.word [108,111,99,107],.ws 32,.word [120],.sg [59],.ws 32,.word [108,111,99,107],.ws 32,.word [121],.sg [59],.ws 32,.sg [125],.ws 32,.word [102,117,110,99],.ws 32,.word [109,97,105,110],.sg [40],.sg [41],.ws 32,.sg [123],.ws 32]
def tZ(x y:Nat):List Atom:=[.word [103,111],.ws 32,.word [102],.sg [40],.word [109,117,116,101,120],.ws 32,.word (Gs x),.sg [44],.ws 32,.word [109,117,116,101,120],.ws 32,.word (Gs y),.sg [41],.sg [59],.ws 32]
def nr:Nat->List Nat->List Atom
 | _,[]=>[]
 | i,y::l=>tZ (i % 4) y++nr (i+1) l
def oc(b2:List Nat):List Atom:=KV++(nr 0 b2++[.sg [125]])
def vc:Atom->Bool
 | .ws c=>pj c
 | .word s=>(match s with|[]=>false|c::l=>bX c && l.all ck) && (cz s || decide (s.length<=16))
 | .num _=>false
 | .sg s=>decide (s∈eC)
def EZ(a b:Atom):Bool:=(!a.jV || !b.jV) && (match a with
 | .sg s=>(match b.head with|some c=>decide ((s++[c])∉fo) && !(decide (s=[47]) && decide (c=47))|none=>true)
 | _=>true)
def chainB:List Atom->Bool
 | []=>true
 | [a]=>vc a
 | a::b::l=>vc a && EZ a b && chainB (b::l)
theorem vd(h:vc a=true):a.ga:=by
 cases a with
 | ws c=>exact h
 | word s=>
  cases s with
  | nil=>cases h
  | cons c l=>
   simp only[vc,Ng,Bool.or_eq_true,Ny] at h
   exact⟨⟨c,l,rfl,h.1.1,h.1.2⟩,h.2⟩
 | num s=>cases h
 | sg s=>exact .inr (by simpa[vc] using h)
theorem E0{b:Atom}(h:EZ a b=true):a.fits b:=by
 simp only[EZ,Ng,Bool.or_eq_true,Bool.not_eq_true'] at h;refine⟨λbg=>?_,?_⟩
 .rcases h.1 with h|h
  .rw[bg] at h;cases h
  .exact h
 .rintro s rfl _ c hc;have az:=h.2;simp only[hc,Ng,Ny,Bool.not_eq_true',Bool.and_eq_false_iff,decide_eq_false_iff_not] at az;exact⟨az.1,λag=>az.2.elim (λh=>h ag.1) λh=>h ag.2⟩
theorem ll:∀(l:List Atom),chainB l=true->Atom.chain l
 | [],_=>trivial
 | [a],h=>vd h
 | a::b::l,h=>by
  simp only[chainB,Ng] at h;exact⟨vd h.1.1,E0 h.1.2,ll (b::l) h.2⟩
theorem Gp(c:UInt8)(b:Atom):(Atom.ws c).fits b:=⟨λh=>(by cases h),λs h=>(by cases h)⟩
theorem qg:∀(l r:List Atom),Atom.chain l->(∃c,l.getLast?=some (.ws c))->Atom.chain r->Atom.chain (l++r)
 | [],_,_,h,_=>by obtain⟨c,h⟩:=h;cases h
 | [a],[],h,_,_=>h
 | [a],b::r,h,hl,ba=>by
  obtain⟨c,hc⟩:=hl;injection hc with hc;subst hc
  exact⟨h,Gp c b,ba⟩
 | a::b::l,r,h,hl,ba=>⟨h.1,h.2.1,qg (b::l) r h.2.2 (by simpa using hl) ba⟩
theorem four(h0:P 0)(ac:P 1)(az:P 2)(aV:P 3){x:Nat}(h:x<4):P x:=by
 match x,h with
 | 0,_=>exact h0
 | 1,_=>exact ac
 | 2,_=>exact az
 | 3,_=>exact aV
theorem xJ{x y:Nat}(hx:x<4)(bb:y<4):chainB (tZ x y)=true:=by
 revert bb;refine four (P:=λx=>y<4->chainB (tZ x y)=true) ?_ ?_ ?_ ?_ hx
 all_goals intro bb
 all_goals refine four (P:=λy=>chainB (tZ _ y)=true) ?_ ?_ ?_ ?_ bb
 all_goals decide +kernel
theorem oR:∀(b2:List Nat) (i:Nat),(∀y∈b2,y<4)->Atom.chain (nr i b2++[.sg [125]])
 | [],_,_=>ll [.sg [125]] (by decide)
 | y::l,i,h=>by
  simp only[nr,Ni];exact qg _ _ (ll _ (xJ ad (h y (by simp)))) ⟨32,rfl⟩ (oR l (i+1) λz aI=>h z (by simp[aI]))
theorem FP{b2:List Nat}(h:∀y∈b2,y<4):Atom.chain (oc b2):=qg _ _ (ll _ (by decide +kernel)) ⟨32,rfl⟩ (oR b2 0 h)
def kJ(n:Nat):List Atom->List Tok
 | []=>[⟨5,[],0,n⟩]
 | .ws _::l=>kJ n l
 | .word s::l=>⟨if s.length=1 then 1 else if cz s then 3 else 1,s,0,(n:Int) - ((s++l.flatMap Atom.bytes).length:Int)⟩::kJ n l
 | .num s::l=>⟨2,s,nZ s,(n:Int) - ((s++l.flatMap Atom.bytes).length:Int)⟩::kJ n l
 | .sg s::l=>⟨4,s,0,(n:Int) - ((s++l.flatMap Atom.bytes).length:Int)⟩::kJ n l
theorem Hw{s:List UInt8}(h:s.length=1):cz s=false:=by
 have:∀w∈rv,w.length≠1:=by decide
 unfold cz;exact decide_eq_false λhs=>this s hs h
theorem k9(n:Nat):∀l:List Atom,l4 n l=kJ n l
 | []=>rfl
 | .ws _::l=>k9 n l
 | .word s::l=>by
  simp only[l4,kJ,k9 n l];by_cases h:s.length=1
  .rw[Hw h,if_pos h];rfl
  .rw[if_neg h]
 | .num s::l=>by simp only[l4,kJ,k9 n l]
 | .sg s::l=>by simp only[l4,kJ,k9 n l]
def J6:aI:=⟨strOf [102],[(strOf [120],true),(strOf [121],true)],.lock false ⟨strOf [120],none⟩ (.lock false ⟨strOf [121],none⟩ .nil)⟩
def J5:Nat->List Nat->al
 | _,[]=>.nil
 | i,y::l=>.call true (strOf [102]) [.mx ⟨strOf (Gs (i % 4)),none⟩,.mx ⟨strOf (Gs y),none⟩] (J5 (i+1) l)
def JC:List bM:=[⟨strOf [97],false,0⟩,⟨strOf [98],false,0⟩,⟨strOf [99],false,0⟩,⟨strOf [100],false,0⟩]
def Hx(b2:List Nat):bN:=⟨[],JC,[J6,⟨strOf [109,97,105,110],[],J5 0 b2⟩]⟩
theorem Hz(n:Nat)(b2:List Nat)(az:2<=b2.length)(cB:b2.length<=5):kI (kJ n (oc b2)) 10 0=some ((Hx b2).af,(Hx b2).funcs):=by
 match b2,az,cB with
 | [a,b],_,_=>rfl
 | [a,b,c],_,_=>rfl
 | [a,b,c,d],_,_=>rfl
 | [a,b,c,d,e],_,_=>rfl
theorem FM{G:Env}(hm:G.af=JC)(J:(strOf [102],[(strOf [120],true),(strOf [121],true)])∈G.funcs){d:Nat}{V T:NI}:∀(b2:List Nat) (i:Nat),(∀y∈b2,y<4)->eX G d V T (J5 i b2)
 | [],_,_=>lQ
 | y::l,i,h=>by
  have ba:∀{x:Nat},x<4->rI G V ⟨strOf (Gs x),none⟩:=λ{x} hx=>by
   refine four (P:=λx=>rI G V ⟨strOf (Gs x),none⟩) ?_ ?_ ?_ ?_ hx
   .exact .inl ⟨⟨strOf [97],false,0⟩,by rw[hm];simp[JC],rfl,λh=>absurd h (by decide),λ_=>rfl⟩
   .exact .inl ⟨⟨strOf [98],false,0⟩,by rw[hm];simp[JC],rfl,λh=>absurd h (by decide),λ_=>rfl⟩
   .exact .inl ⟨⟨strOf [99],false,0⟩,by rw[hm];simp[JC],rfl,λh=>absurd h (by decide),λ_=>rfl⟩
   .exact .inl ⟨⟨strOf [100],false,0⟩,by rw[hm];simp[JC],rfl,λh=>absurd h (by decide),λ_=>rfl⟩
  have aq:=FM hm J (d:=d) (V:=V) (T:=T) l (i+1) λz aI=>h z (by simp[aI]);have hc:∃ps,(strOf [102],ps)∈G.funcs/\ix G V ps [.mx ⟨strOf (Gs (i % 4)),none⟩,.mx ⟨strOf (Gs y),none⟩]:=⟨_,J,⟨rfl,ba ad⟩,⟨rfl,ba (h y (by simp))⟩,trivial⟩
  cases d<;>exact⟨hc,aq⟩
theorem y3:∀(b2:List Nat) (i:Nat),(J5 i b2).num=b2.length
 | [],_=>rfl
 | y::l,i=>by
  have:=y3 l (i+1);simp only[J5,al.num,Nh];omega
theorem IL{b2:List Nat}(h:∀y∈b2,y<4)(cB:b2.length<=5):pe (Hx b2):=by
 refine⟨?_,?_,by show (0:Nat)<=16;decide,by show (4:Nat)<=12;decide,by show (2:Nat)<=16;decide,?_,?_,?_,⟨1,_,rfl,rfl,rfl⟩,?_⟩
 .show ∀s∈[strOf [97],strOf [98],strOf [99],strOf [100],strOf [102],strOf [109,97,105,110]],bB s.data.toList=true
  decide
 .show [strOf [97],strOf [98],strOf [99],strOf [100],strOf [102],strOf [109,97,105,110]].Nodup
  decide
 .intro g aR;cases aR
 .show ∀m∈JC,0<=m.size/\m.size<=64/\(m.re=true->m.size=0)
  decide
 .intro f J;rcases Nk.1 J with rfl|J
  .refine⟨by decide,by decide,?_,?_⟩
   .show [strOf [97],strOf [98],strOf [99],strOf [100],strOf [102],strOf [109,97,105,110],strOf [120],strOf [121]].Nodup
    decide
   .exact⟨.inr ⟨by simp[fG,J6],rfl⟩,.inr ⟨by simp[fG,J6],rfl⟩,trivial⟩
  .rcases Nk.1 J with rfl|J
   .refine⟨(by intro q bv;cases bv),by show (0:Nat)<=2;decide,?_,?_⟩
    .show ([strOf [97],strOf [98],strOf [99],strOf [100],strOf [102],strOf [109,97,105,110]]++[]).Nodup
     decide
    .exact FM rfl (by simp[fG,sigs,Hx,J6]) b2 0 h
   .cases J
 .show ([(J6.body).num,(J5 0 b2).num]:List Nat).sum<=64
  have ac:(J6.body).num=2:=by rfl
  simp only[List.sum_cons,List.sum_nil,y3,ac];omega
theorem JG{b2:List Nat}(h:∀y∈b2,y<4)(cB:b2.length<=5):dU ((oc b2).flatMap Atom.bytes)=(kJ ((oc b2).flatMap Atom.bytes).length (oc b2),(((oc b2).flatMap Atom.bytes).length:Int),0):=by
 have hl:((oc b2).flatMap Atom.bytes).length<=262144/\Atom.count (oc b2)<=4000:=by
  match b2,cB with
  | [],_=>exact⟨Nat.le_of_ble_eq_true rfl,Nat.le_of_ble_eq_true rfl⟩
  | [a],_=>exact⟨Nat.le_of_ble_eq_true rfl,Nat.le_of_ble_eq_true rfl⟩
  | [a,b],_=>exact⟨Nat.le_of_ble_eq_true rfl,Nat.le_of_ble_eq_true rfl⟩
  | [a,b,c],_=>exact⟨Nat.le_of_ble_eq_true rfl,Nat.le_of_ble_eq_true rfl⟩
  | [a,b,c,d],_=>exact⟨Nat.le_of_ble_eq_true rfl,Nat.le_of_ble_eq_true rfl⟩
  | [a,b,c,d,e],_=>exact⟨Nat.le_of_ble_eq_true rfl,Nat.le_of_ble_eq_true rfl⟩
 unfold dU;rw[if_neg ad,iD _ _ _ _ (FP h) (Nat.lt_succ_self _) (by simpa using hl.2),k9];rfl
def cn(f:Nat->Bool):Array Value:=#[.bool (f 0),.bool (f 1),.bool (f 2),.bool (f 3),.bool (f 4),.bool (f 5),.bool (f 6),.bool (f 7),.bool (f 8),.bool (f 9),.bool (f 10),.bool (f 11),.bool (f 12),.bool (f 13),.bool (f 14),.bool (f 15),.bool (f 16),.bool (f 17),.bool (f 18),.bool (f 19),.bool (f 20),.bool (f 21),.bool (f 22),.bool (f 23),.bool (f 24),.bool (f 25),.bool (f 26),.bool (f 27),.bool (f 28),.bool (f 29),.bool (f 30),.bool (f 31)]
theorem iz(f:Nat->Bool):(cn f).toList=(List.range 32).map λi=>.bool (f i):=rfl
theorem pt(f:Nat->Bool){k:Nat}(h:k<32):(cn f)[k]?=some (.bool (f k)):=by
 rw[<-Array.getElem?_toList,iz,List.getElem?_map,List.getElem?_range h];rfl
theorem uG(f:Nat->Bool)(k:Nat)(b:Bool):(cn f).setIfInBounds k b=cn λi=>if i=k then b else f i:=by
 refine Array.ext' ?_;rw[Array.toList_setIfInBounds,iz,iz];refine List.ext_getElem? λi=>?_;rw[List.getElem?_set,List.getElem?_map,List.getElem?_map];by_cases aN:i<32
 .rw[List.getElem?_range aN];by_cases aj:k=i
  .subst aj;simp[aN]
  .simp[aj,Ne.symm aj]
 .rw[List.getElem?_eq_none (by simpa using aN)];simp;omega
theorem kS{f g:Nat->Bool}:cn f=cn g↔∀i,i<32->f i=g i:=by
 constructor
 .intro h i aN;have ac:=pt f aN;rw[h,pt g aN] at ac;injection ac with ac;injection ac with ac;exact ac.symm
 .intro h;refine Array.ext' ?_;rw[iz,iz];refine List.map_congr_left λi aN=>?_;rw[h i (List.mem_range.1 aN)]
section
variable {l:List Int} {f:Nat->Bool} {k:Nat} {x:Int} {b:Bool}
theorem Jz(h:l[k]?=some x):oN l (k:Int)=x:=by
 unfold oN;rw[if_neg ad,Np,List.getD_eq_getElem?_getD,h];rfl
theorem Hr(h:l[k]?=some x):jZ l f k=(f k && decide (0<=x) && f x.toNat):=by
 unfold jZ;rw[Jz h,decide_eq_true (List.getElem?_eq_some_iff.1 h).1,Bool.true_and]
theorem vE(h:jZ l f k=b):(cn λi=>if i=k then b else decide (i<k) && jZ l f i)=cn λi=>decide (i<k+1) && jZ l f i:=by
 rw[kS];intro i _;by_cases aN:i=k
 .subst aN;simp[h]
 .simp only[if_neg aN];congr 1
  simp;omega
theorem vD(h:jZ l f k=false):(cn λi=>decide (i<k) && jZ l f i)=cn λi=>decide (i<k+1) && jZ l f i:=by
 rw[<-vE h,kS];intro i _;by_cases aN:i=k
 .subst aN;simp
 .simp[if_neg aN]
theorem Hs(h:l.length=k):(cn λi=>decide (i<k) && jZ l f i)=cn (jZ l f):=by
 rw[kS];intro i _;unfold jZ;rw[h];by_cases aN:i<k<;>simp[aN]
theorem jK(h:an w g 74 (cn f))(aj:k<32):w.cell? ⟨g,k,none⟩=some (.bool (f k)):=(h.two.1 k).trans (pt f aj)
end
theorem an.setRow{w:World}{g:Nat}{t:TypeId}{cs:Array Value}(h:an w g t cs)(vs:Array Value):an (w.setRow g vs) g t vs:=by
 unfold an at h ⊢;simp[World.setRow,Array.getElem?_modify,h]
theorem Fr.setRow{M:Nat->Prop}{S w:World}{g:Nat}(h:Fr M S w)(aR:M g\/S.heap.size<=g)(vs:Array Value):Fr M S (w.setRow g vs) where
 os:=h.os
 tape:=h.tape
 output:=h.output
 size:=by simpa[World.setRow] using h.size
 block k aj hm:=by
  have bl:g≠k:=λe=>by
   subst e;rcases aR with aR|aR
   .exact hm aR
   .omega
  simp only[World.setRow,Array.getElem?_modify,if_neg bl];exact h.block k aj hm
theorem uF:∀v∈(cn F).toList,v.oneCell'=true:=λv bK=>by
 rw[iz] at bK;obtain⟨i,_,rfl⟩:=Ns.1 bK;rfl
theorem uc{f:Nat->Bool}(h:an w g 74 (cn f))(F:Nat->Bool):(storeCells ⟨g,0,none⟩ (cn F).toList).run prog w=.ok () (w.setRow g (cn F)):=by
 rw[run_storeCells_from g 74 _ 0 _ w h (by simp[cn]) uF];simp
theorem xN(w:World)(c aD:Array Value)(t:TypeId):(w.alloc (.cells c t)).setRow w.heap.size aD=w.alloc (.cells aD t):=by
 unfold World.setRow World.alloc;congr 1
 refine Array.ext_getElem? λi=>?_;rw[Array.getElem?_modify,Array.getElem?_push,Array.getElem?_push];by_cases h:w.heap.size=i
 .subst h;simp
 .rw[if_neg h];simp[Ne.symm h]
theorem xM(w:World)(z:Array Value)(aI:z.size=32)(F:Nat->Bool):(storeCells ⟨w,0,none⟩ (cn F).toList).run prog (w.alloc (.cells z 74))=.ok () (w.alloc (.cells (cn F) 74)):=by
 rw[run_storeCells_from w 74 _ 0 z _ (heap_alloc_new _ _) (by simp[cn,aI]) uF];simp[xN]
theorem vM(w:World)(F:Nat->Bool):(storeCells ⟨w,0,none⟩ (cn F).toList).run prog (w.alloc (.cells #[false,false,false,false,false,false,false,false,false,false,false,false,false,false,false,false,false,false,false,false,false,false,false,false,false,false,false,false,false,false,false,false] 74))=.ok () (w.alloc (.cells (cn F) 74)):=xM w _ rfl F
theorem l3(A:NH)(n c:Nat)(l:List Int)(f:Nat->Bool)(w:World)(h:cp (EF bQ) 1 w w.heap.size A n l)(hl:dh l)(hn:n<=32) :
  Calls prog 21 #[.slice A n c,.agg (cn f)] w λe ab=>e=.returned (.agg (cn (jZ l f)))/\Ext w ab:=by
 have hlen:l.length=n:=by have:=h.1;omega
 have cG:=ay hl hlen h;clear hl hlen h;unfold cn;go_enter func21,ntmps21;go_upto_region 2 with(fail);generalize be:World.alloc _ _=W;have aF:Ext w W:=be▸((NC.alloc _).alloc _).alloc _;have b0:an W w 74 (cn f):=be▸((ND).alloc _).alloc _;have bX:an W (w.heap.size+1) 74 (cn λ_=>false):=be▸(an.gF _ _ _ (by simp)).alloc _;have bh:an W (w.heap.size+2) 74 (cn λ_=>false):=be▸an.gF _ _ _ (by simp);have cZ:=bh.lt;have al:=cQ aF b0 bX bh (cG.2.2.cD (Fr.ext aF) aF.size);clear be aF b0 bX bh;go_wp2_with(fail);go_loopw [10] (λb5 wr=>∃k:Nat,b5=.int .i64 k/\k<=n/\an wr (w.heap.size+2) 74 (cn λi=>decide (i<k) && jZ l f i)/\Fr (λb=>b=w.heap.size+2) W wr) (λb5 _=>n - (intOf b5).toNat)
 case atStart=>exact⟨0,rfl,ad,by simpa using al.2.2.2.1,NC⟩
 case round=>
  obtain⟨k,rfl,aj,aT,hF⟩:=hrel;have hs:=hF.size;have bL:=ah aT hF;clear aT hF;by_cases ap:k<n
  .have cU:(k:Int)<(n:Int):=ad;have aq:(k:Int)<32:=ad;obtain⟨b,o,x,rfl,ao,hx,c0⟩:=cG.2.2.int ap;have T:b<wr:=by have:=al.1.size;omega
   have aB:=cG.1 x (M4 hx);rw[cG.2.1] at aB;have e0:=((Fr.cell (j:=o+k) al.1 ao (λh=>h)).trans c0)
   have e1:=((bL.2.cell (j:=o+k) (ax al.1.size) ad).trans e0)
   have cd:=jK (k:=k) (al.2.1.on bL.2 ad) ad;have cv:w<wr.heap.size:=ad;have g:=ae (Hr (f:=f) hx);clear c0 e0 hx ao
   cases hfk:f k with
   | false=>
    rw[hfk] at cd;have bH:=ae (vD (l:=l) (f:=f) (k:=k) (by rw[g.o,hfk];rfl));clear hfk g
    exact AB
   | true=>
    rw[hfk] at cd;by_cases bp:0<=x
    case neg=>
     have q1:decide (x>=0)=false:=by simp;omega
     have bH:=ae (vD (l:=l) (f:=f) (k:=k) (by rw[g.o,decide_eq_false bp];simp));clear hfk g bp;exact AB
    have q1:decide (x>=0)=true:=by simpa using bp
    have m:x<32:=ad;obtain⟨j,rfl⟩:=M6 bp;have g2:=jK (k:=j) (al.2.1.on bL.2 ad) ad;have o1:=jK (k:=k) bL.1 ad;have ar:=bL.1.two.2.1;have bH:=ae (vE (l:=l) (f:=f) (k:=k) (b:=f j) (by rw[g.o,hfk,decide_eq_true bp];simp));have bg:=bL.1.lt;clear hfk g bp aB;generalize f j=r at *;go_upto_region 7 with(fail);generalize hX:World.setCell _ _ _=X;have bE:an X (w.heap.size+2) 74 (cn λi=>decide (i<k+1) && jZ l f i):=by rw[<-hX,<-bH.o,<-uG];exact bL.1.aK k _
    have ct:Fr (λb=>b=w.heap.size+2) W X:=hX▸bL.2.setCell (.inl rfl) _;exact Iv
  .have cU:¬(k:Int)<(n:Int):=ad;have cx:=bL.1;rw[Hs (ax cG.2.1)] at cx;obtain⟨F,hF⟩:∃F,F=jZ l f:=⟨_,rfl⟩
   rw[<-hF] at cx;have z:=ae hF;have bX:=al.2.2.1.on bL.2 ad;have R:Ext w wr:=Fr.low (M:=λb=>b=w.heap.size+2) (Fr.trans (Fr.mono al.1 λ_ h=>h.elim) bL.2) λb O=>ad;have bk:=ah bX R;clear bX R bL hF;have cf:=uc bk.1 F;go_wp2_with(refine wpList_load_row rfl 74 _ rfl (w.heap.size+2) rfl 74 (cn F) (0,0) _ cx Tryz.underlying74 rfl (by kernel_rfl) ?_);generalize hX:World.setRow _ _ _=Z;have bm:an Z (w.heap.size+1) 74 (cn F):=hX▸bk.1.setRow _;have bd:Ext w Z:=hX▸bk.2.setRow (.inr ad) _;refine⟨rfl,.agg (cn F),?_,?_⟩
   .exact results_cell_row rfl _ _ (w.heap.size+1) 74 (cn F) (0,0) _ rfl bm Tryz.underlying74 rfl (by kernel_rfl)
   have hF:=z.o;subst hF;exact⟨rfl,bd⟩
theorem y6(F:Nat->Bool){j:Nat}(bi:j<32)(w:World):(Instr.index 74 (.agg (cn F)) (.int .i64 (j:Int))).run prog w=.ok (.bool (F j)) w:=by
 simp[Instr.index,run_underlying Tryz.underlying74,asIntOf,go_sem,bi,pt F bi]
theorem z9(w:World)(F G:Nat->Bool):∃r:Bool,(Op.equalIn 10000 74 (.agg (cn F)) (.agg (cn G))).run prog w=.ok r w/\(r=true↔∀i,i<32->F i=G i):=by
 have aj:∀F:Nat->Bool,prog.keyLits 5 74 (Value.agg (cn F)).cells.toList=some ((List.range 32).map λi=>Lit.bool (F i)):=λF=>by kernel_rfl
 obtain⟨r,ba,E⟩:=run_equalIn_deep (P:=prog) 9998 2 74 (by kernel_rfl) w 5 5 (.agg (cn F)) (.agg (cn G)) _ _ (by kernel_rfl) (by kernel_rfl) (aj F) (aj G);refine⟨r,ba,E.trans ?_⟩;rw[List.map_inj_left];constructor
 .intro h i aN;have:=h i (List.mem_range.2 aN);injection this
 .intro h i aN;rw[h i (List.mem_range.1 aN)]
def Mj:Option Value->Bool
 | some (.bool b)=>b
 | _=>false
def Ge(w:World)(g:Nat):Nat:=(List.range 32).countP λi=>Mj (w.cell? ⟨g,i,none⟩)
theorem v7{f:Nat->Bool}(h:an w g 74 (cn f)):Ge w g=(List.range 32).countP f:=by
 unfold Ge;refine List.countP_congr λi aN=>?_;rw[jK h (List.mem_range.1 aN)];rfl
theorem zv{f g:Nat->Bool}(hs:∀i,g i=true->f i=true){i:Nat}(aN:i<32)(ac:f i=true)(az:g i=false):(List.range 32).countP g<(List.range 32).countP f:=by
 have h:(List.range 32).countP f=(List.range 32).countP g+(List.range 32).countP λi=>f i && !g i:=by
  generalize List.range 32=l
  induction l with
  | nil=>rfl
  | cons x l aq=>
   simp only[List.countP_cons,aq];cases J:f x<;>cases aR:g x<;>simp
   .have:=hs x aR;rw[J] at this;cases this
   .omega
   .omega
 have:0<(List.range 32).countP λi=>f i && !g i:=List.countP_pos_iff.2 ⟨i,List.mem_range.2 aN,by simp[ac,az]⟩;omega
def jb(F:Nat->Bool)(k:Nat):List Int:=((List.range k).filter F).map Int.ofNat
theorem z1{k:Nat}:(jb F k).length<=k:=by
 unfold jb;rw[M5];refine Nl (List.length_filter_le _ _) ?_;simp
theorem yX{k:Nat}(h:F k=true):jb F (k+1)=jb F k++[(k:Int)]:=by
 unfold jb;rw[List.range_succ,List.filter_append,Na];simp[h]
theorem tU{k:Nat}(h:F k=false):jb F (k+1)=jb F k:=by
 unfold jb;rw[List.range_succ,List.filter_append];simp[h]
theorem xA{l:List Int}(hn:l.length<=32)(hF:∀i,i<32->(F i=true↔(i:Int)∈fa l))(hl:dh l):jb F 32=fa l:=by
 unfold jb;have ac:∀k,k<=32->k<=l.length->((List.range k).filter F).map Int.ofNat=qi l k:=by
  intro k
  induction k with
  | zero=>intro _ _;rfl
  | succ k aq=>
   intro aD aj;have aq:=aq ad ad;have hm:=hF k ad;rw[gk hl] at hm;by_cases bg:0<=eA l (l.length+1) (k:Int)
   .have ht:F k=true:=hm.2 ⟨ad,ad,pZ hl ad (dO bg ad)⟩;rw[GP bg,<-aq];exact yX ht
   .have ht:F k=false:=by
     cases J:F k with
     | false=>rfl
     | true=>exact absurd ((hm.1 J).2.2 _) bg
    rw[GO bg,<-aq];exact tU ht
 have az:∀m,l.length+m<=32->((List.range (l.length+m)).filter F).map Int.ofNat=qi l l.length:=by
  intro m
  induction m with
  | zero=>intro h;exact ac _ h (MU _)
  | succ m aq=>
   intro h;have ht:F (l.length+m)=false:=by
    cases J:F (l.length+m) with
    | false=>rfl
    | true=>
     have:=(gk hl).1 ((hF _ ad).1 J);omega
   rw[<-aq ad];exact tU (k:=l.length+m) ht
 have:=az (32 - l.length) ad;rw[show l.length+(32 - l.length)=32 by omega] at this;exact this
namespace Eb
theorem Bu(h:p:=by
 generalize bw:bq u s=l at *;have au:=ae bw;clear bw;clear a0 ak af bs am aK bS aM;go_upto_region 3 with(fail);generalize hV:World.alloc _ _=V;have a7:Ext aO V:=hV▸NC.alloc _;have bN:an V aO 74 (cn λ_=>false):=hV▸ND;have dm:=bN.lt;have cc:=ah a7 bN;clear hV a7 bN;have ao:min (hn:Int) 32=(hn:Int):=ad;go_wp2_with(fail);clear ao;go_loopw [18] (λb5 wr=>∃k:Nat,b5=.int .i64 k/\k<=hn/\an wr aO 74 (cn λi=>decide (i<k))/\Fr (λb=>b=aO.heap.size) V wr) (λb5 _=>hn - (intOf b5).toNat)
 case atStart=>exact⟨0,rfl,ad,by simpa using cc.2,NC⟩
 case round=>
  obtain⟨k,rfl,aj,aT,hF⟩:=hrel;have bL:=ah aT hF;have hs:=hF.size;clear aT hF;by_cases ap:k<hn
  .have cU:(k:Int)<(hn:Int):=ad;have aq:(k:Int)<32:=ad;have o1:=jK (k:=k) bL.1 ad;have ar:=bL.1.two.2.1;have bg:=bL.1.lt;go_upto_region 7 with(fail);generalize hX:World.setCell _ _ _=X;have bE:an X aO 74 (cn λi=>decide (i<k+1)):=by
    have he:(cn λi=>decide (i<k+1))=cn λi=>if i=k then true else decide (i<k):=by
     rw[kS];intro i _;by_cases aN:i=k
     .subst aN;simp
     .simp only[if_neg aN];congr 1
      simp;omega
    rw[<-hX,he,<-uG];exact bL.1.aK k _
   have ct:Fr (λb=>b=aO.heap.size) V X:=hX▸bL.2.setCell (.inl rfl) _;exact Iv
  .have cU:¬(k:Int)<(hn:Int):=ad;have bN:=bL.1;have h0:(cn λi=>decide (i<k))=cn (cX l 0):=by
    rw[kS];intro i _;have:=bT.1;unfold cX;rw[show eA l 0 (i:Int)=(i:Int) from rfl,decide_eq_true (show 0<=(i:Int) by omega),Bool.and_true];congr 1
    simp;omega
   rw[h0] at bN;clear h0 ap;have K:Ext aO wr:=Fr.low (M:=λb=>b=aO.heap.size) (Fr.trans (Fr.mono cc.1 λ_ h=>h.elim) bL.2) λb O=>ad;have a3:=ay K bN (H1.1.cD (Fr.ext K) K.size);have fk:=K.size;have ag:=bL.2;clear K bN bL;have bN:=a3.2.1;go_wp2_with(refine wpList_load_row rfl 74 _ rfl aO rfl 74 (cn (cX l 0)) (0,0) _ bN Tryz.underlying74 rfl (by kernel_rfl) ?_);refine(l3 A hn c l (cX l 0) wr a3.2.2 bT.2 z).mono ?_;rintro e aW ⟨rfl,a7⟩;rw[show jZ l (cX l 0)=cX l 1 from funext λt=>ni bT.2 0 t];have a8:=ah a7 (bN.aj a7);have cb:=ae (ag.trans (a7.mono λ_ h=>h.elim));clear bN a7 ag;have bO:=a8.1.size;have cf:=vM aW (cX l 1);go_upto_region 9 with(fail);generalize hX:World.alloc _ _=X;have bf:Ext aW X:=hX▸NC.alloc _;have Z:an X aW 74 (cn (cX l 1)):=hX▸ND;have aP:=ay bf (a8.2.aj bf) Z;have cM:=bf.size;clear hX bf Z cf;go_loopw [8] (λd4 b7=>∃(m L:Nat),d4=.pointer (some ⟨L,0,none⟩)/\an b7 L 74 (cn (cX l (m+1)))/\an b7 aO 74 (cn (cX l m))/\aO<L/\Fr (λb=>b=aO.heap.size) V b7) (λ_ b7=>Ge b7 aO)
   case atStart=>exact⟨0,aW.heap.size,rfl,aP.2.2,aP.2.1,ad,cb.trans (aP.1.mono λ_ h=>h.elim)⟩
   case round=>
    obtain⟨m,L,rfl,T,bN,av,hF⟩:=hrel;have y:=T.lt;obtain⟨r,ba,E⟩:=z9 wr (cX l (m+1)) (cX l m);have cC:=ae E;have bW:=ay T bN hF;have az:=hF.size;clear E hF
    cases r with
    | true=>
     go_wp2_with(first
      | refine wpList_load_row rfl 74 _ rfl L rfl 74 (cn (cX l (m+1))) (0,0) _ T Tryz.underlying74 rfl (by kernel_rfl) ?_
      | refine wpList_load_row rfl 74 _ rfl aO rfl 74 (cn (cX l m)) (0,0) _ bN Tryz.underlying74 rfl (by kernel_rfl) ?_)
     clear ba;have iq:∀i,i<32->(cX l m i=true↔(i:Int)∈fa l):=λi aN=>by
      have cf:=cC.1 (by simp);rcases Nat.lt_or_ge i l.length with ac|ac
      .exact Aa bT.2 (λt ht=>cf t (ax bT.1)) ac
      .rw[gk bT.2];unfold cX;rw[decide_eq_false ad];constructor
       .intro h;cases h
       .intro h;omega
     have bZ:=ae (xA (ax bT.1) iq bT.2);have U:=ae (show Ext aO wr from Fr.low (M:=λb=>b=aO.heap.size) (Fr.trans (Fr.mono cc.1 λ_ h=>h.elim) bW.2.2) λb O=>ad);clear iq cC T bN;generalize cX l m=F at *;go_loopw [9,36] (λv b5 cg=>∃j:Nat,b5=.int .i64 j/\j<=32/\cg.ownsRow wr 3 1 v (jb F j).length ((jb F j).flatMap bQ)/\Below wr wr cg) (λ_ b5 _=>32 - (intOf b5).toNat)
     case atStart=>exact⟨0,rfl,ad,World.ownsRow_nil _ _ _ _,Below.refl _ _⟩
     case round=>
      obtain⟨j,rfl,bi,aB,O⟩:=hrel;have b3:=O.size;have cA:=z1 (F:=F) (k:=j);have Q:=ay (yX (F:=F) (k:=j)) (tU (F:=F) (k:=j)) (λh:j=32=>show jb F j=jb F 32 by rw[h]);generalize jb F j=D at *;have a2:=ah aB O;by_cases ap:j<32
      .have cU:(j:Int)<32:=ad;cases hFj:F j
       case true=>
        have bH:=ae (Q.1 hFj);have H:=λW=>(y6 F ap W).trans (by rw[hFj]);clear hFj Q;go_wp2_with(at_builtin;refine b9 _ cF (by rfl) (.tmp 41) (.tmp 43) (by rfl) _ _ _ _ _ (by rfl) aB (by rfl) (by rfl) (hL _ _) ad ad b3 ?_;intro v1 cO S aY bC);go_roundw
        case rel=>exact⟨j+1,by go_num,ad,by rw[bH.o,M3,dT];exact S,dy O aB aY (MU _) b3⟩
        case measure=>exact aH
       case false=>
        have bH:=ae (Q.2.1 hFj);have H:=λW=>(y6 F ap W).trans (by rw[hFj]);clear hFj Q aB O;go_wp2_with(fail);go_roundw
        case rel=>exact⟨j+1,by go_num,ad,by rw[bH.o];exact a2.1,a2.2⟩
        case measure=>exact aH
      .have cU:¬(j:Int)<32:=ad;have dS:=ae (Q.2.2 ad);clear ap Q aB O;go_wp2_with(fail);go_ret;rw[au.o,<-bZ.o,<-dS.o];exact⟨gY.own rfl a2.1 (H1.2.trans (U.trans (Fr.of a2.2))),λb o n c he=>by
        obtain⟨cR,c1,bK,_,_,_,bp⟩:=bG a2.1;injection he with he;rw[bK] at he;injection he with e1 e2 e3;obtain⟨g,aR,O,_⟩:=bp _ e1;injection aR with aR _;have:=(H1.2.trans U.o).size
        omega⟩
    | false=>
     go_upto_region 11 with(first
      | refine wpList_load_row rfl 74 _ rfl L rfl 74 (cn (cX l (m+1))) (0,0) _ T Tryz.underlying74 rfl (by kernel_rfl) ?_
      | refine wpList_load_row rfl 74 _ rfl aO rfl 74 (cn (cX l m)) (0,0) _ bN Tryz.underlying74 rfl (by kernel_rfl) ?_)
     clear ba;have cf:=uc bN (cX l (m+1))
     go_upto_region 12 with(first
      | refine wpList_load_row rfl 74 _ rfl L rfl 74 (cn (cX l (m+1))) (0,0) _ T Tryz.underlying74 rfl (by kernel_rfl) ?_
      | refine wpList_load_row rfl 74 _ rfl aO rfl 74 (cn (cX l m)) (0,0) _ bN Tryz.underlying74 rfl (by kernel_rfl) ?_)
     clear cf;generalize hX:World.setRow _ _ _=X;have R:an X aO.heap.size 74 (cn (cX l (m+1))):=hX▸bN.setRow _;have ct:Fr (λb=>b=aO.heap.size) wr X:=hX▸(Fr.refl (λb=>b=aO.heap.size) wr).setRow (.inl rfl) _;have P:=T.on ct ad;have cM:=ct.size;have cf:=vM X (cX l (m+1));clear hX T bN;go_upto_region 10 with(refine wpList_load_row rfl 74 _ rfl L rfl 74 (cn (cX l (m+1))) (0,0) _ P Tryz.underlying74 rfl (by kernel_rfl) ?_);clear cf P;generalize co:World.alloc _ _=Y;have bA:Ext X Y:=co▸NC.alloc _;have bM:an Y X.heap.size 74 (cn (cX l (m+1))):=co▸ND;have J:=R.aj bA;have G:=(bW.2.2.trans ct).trans (bA.mono λ_ h=>h.elim);have aa:Ext aO Y:=Fr.low (M:=λb=>b=aO.heap.size) (Fr.trans (Fr.mono cc.1 λ_ h=>h.elim) G) λb O=>ad;have bB:=br bM J G aa;clear co bA bM R G ct aa;go_wp2_with(refine wpList_load_row rfl 74 _ rfl aO.heap.size rfl 74 (cn (cX l (m+1))) (0,0) _ J Tryz.underlying74 rfl (by kernel_rfl) ?_);refine(l3 A hn c l (cX l (m+1)) Y (H1.1.cD (Fr.ext bB.2.2.2) bB.2.2.2.size) bT.2 z).mono ?_;rintro e b6 ⟨rfl,bf⟩;rw[show jZ l (cX l (m+1))=cX l (m+1+1) from funext λt=>ni bT.2 (m+1) t];have b0:=bB.1.aj bf;have cf:=uc b0 (cX l (m+1+1));have a4:=ay b0 (bB.2.1.aj bf) (bB.2.2.1.trans (bf.mono λ_ h=>h.elim));have cI:=bf.size;clear b0 bf J;go_wp2_with(fail);clear cf;have bn:an (b6.setRow X.heap.size (cn (cX l (m+1+1)))) aO.heap.size 74 (cn (cX l (m+1))):=a4.2.1.on (M:=λb=>b=X.heap.size) ((Fr.refl (λb=>b=X.heap.size) b6).setRow (.inl rfl) _) ad;have I:=ae bn;clear bn
     go_roundw
     case rel=>exact⟨m+1,X.heap.size,rfl,a4.1.setRow _,I.o,ad,a4.2.2.setRow (.inr ad) _⟩
     case measure=>
      rw[v7 I.o,v7 bW.2.1];have bl:∃i,i<32/\cX l (m+1) i≠cX l m i:=Classical.byContradiction λh=>by
       have:=cC.2 λi aN=>Classical.byContradiction λbv=>h ⟨i,aN,bv⟩;cases this
      obtain⟨i,aN,bv⟩:=bl;have ac:cX l m i=true:=by
       cases hm:cX l m i with
       | true=>rfl
       | false=>
        cases cr:cX l (m+1) i with
        | false=>rw[hm,cr] at bv;exact absurd rfl bv
        | true=>rw[vO cr] at hm;cases hm
      exact zv (λi=>vO) aN ac (by cases cr:cX l (m+1) i with
       | false=>rfl
       | true=>rw[cr,ac] at bv;exact absurd rfl bv)
 ):p:=h
theorem fP(h:p:=by
 obtain⟨hlen,c5,z⟩:=h.len;have cG:=ah h hlen;clear h hlen;simp only at c5 z;dsimp only[UV.val,SV.val];go_enter func6,ntmps6;go_upto_region 1 with(fail);generalize be:World.alloc _ _=W;have aF:Ext w W:=be▸(NC.alloc _).alloc _;have bX:an W w 26 #[.slice GA gn gc,.slice MA mn mc,.slice PA pn pc,.int .i64 u.main]:=be▸(ND).alloc _;have bh:an W (w.heap.size+1) 30 #[.slice bI bU bx,.slice TA tn tc,.slice HA hn hc,.int .i64 s.fault]:=be▸an.gF _ _ _ (by simp);exact Bt
 ):p:=h
end Eb
open Eb in
theorem su(u:aw)(s:ai)(N:Nat)(w:World)(p:UV)(q:SV)(h:kP u s N w p q) :
  Calls prog 6 #[.agg (p.val u),.agg (q.val s)] w λe ab=>gY w (fa (bq u s)) e ab/\∀b o n c,e=.returned (.slice (some ⟨b,o,none⟩) n c)->w.heap.size<=b:=by
 exact fO
theorem IH(u:aw)(s:ai)(N:Nat)(w:World)(p:UV)(q:SV)(h:kP u s N w p q) :
  Calls prog 6 #[.agg (p.val u),.agg (q.val s)] w (gY w (fa (bq u s))):=
 (su u s N w p q h).mono λ_ _ h=>h.1
theorem Ah{u:aw}{GA MA PA:NH}{gn gc mn mc pn pc:Nat}{m:Int}(h:(uR u).rep w P [.slice GA gn gc,.slice MA mn mc,.slice PA pn pc,m])(bh:∀b,P b->b<w.heap.size):(⟨GA,gn,gc,MA,mn,mc,PA,pn,pc⟩:UV).Ok w u:=by
 obtain⟨_,_,_,_,_,_,_,_,_,he,ac,az,aV,hu⟩:=mr (D.aM (cU:=av w) bh _ _ h);injection he with e1 he;injection he with e2 he;injection he with e3 he;injection e1 with i y a3;injection e2 with am dk ar;injection e3 with c1 c2 c3;subst i y a3 am dk ar c1 c2 c3;exact⟨hu,ac,az,aV⟩
end Go.Proofs.YtnigabjngpnbiabGreat
