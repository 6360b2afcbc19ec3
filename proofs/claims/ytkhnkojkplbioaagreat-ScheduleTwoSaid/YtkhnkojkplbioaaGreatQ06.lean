/- Part 6 of the proof. No condition of its own. -/
import Derived.Test.YtkhnkojkplbioaaGreatQ05
namespace Go.Proofs.YtkhnkojkplbioaaGreat
open Go.RowKit Go.Proofs.Tryz
set_option maxRecDepth 1000000
set_option maxHeartbeats 25600000
set_option linter.unusedVariables false
variable{a:Atom}{m:List Atom}{l s:List UInt8}{b cap k n o:Nat}{c:UInt8}{w:World}
structure fx(w:World)(b o cap:Nat)(s:ByteArray):Prop where
 bytes:Lib.Bytes w b o s
 lt:b<w.heap.size
 fit:s.size<=cap
 small:s.size<=1000000
theorem fx.on{ab:World}{s:ByteArray}(h:fx w b o cap s)(O:Ext w ab):fx ab b o cap s:=
 ⟨λi an=>(O.cell h.lt (λh=>h)).trans (h.bytes i an),Ll h.lt O.size,h.fit,h.small⟩
theorem gm(s:ByteArray)(j n:Nat):(s.extract j (j+n)).data.toList=(s.data.toList.drop j).take n:=by
 rw[Lib.extract_data,Nat.add_sub_cancel_left]
theorem xh(s:ByteArray):strOf s.data.toList=s:=by
 unfold strOf;cases s
 simp
theorem nW{s:ByteArray}(hc:s.size<=cap)(hn:0<n)(ap:k+n<=s.size)(W:World):
  (Instr.slice 143 (.slice (some ⟨b,o,none⟩) s.size cap) (some (.int .i64 (k:Int))) (some (.int .i64 ((k:Int)+(n:Int)))) none).run prog W=.ok (.slice (some ⟨b,o+k,none⟩) n (cap - k)) W:=by
 have:=Lib.run_slice_window (P:=prog) W 143 5 Tryz.underlying143 (λw=>by kernel_rfl) b o s.size cap k (k+n) ad ad;rw[show k+n - k=n by omega,Int.natCast_add] at this;exact this
theorem kb{s:ByteArray}(h:fx w b o cap s)(c:Nat)(ap:k+n<=s.size):
  (convert 143 9 (.slice (some ⟨b,o+k,none⟩) n c)).run prog w=.ok (.string (s.extract k (k+n))) w:=
 Lib.run_convert_window w _ _ _ Tryz.underlying143 Tryz.underlying5 Tryz.underlying9 b o s h.bytes k n c ap
theorem E0(s:ByteArray)(b o cap k:Nat)(w:World)(h:fx w b o cap s)(ap:k<s.size) :
  Calls prog 145 #[.slice (some ⟨b,o,none⟩) s.size cap,.int .i64 k] w λe ab=>e=.returned (.int .i64 (e5 (s.data.toList.drop k)))/\Ext w ab:=by
 have H:=ae h;have bI:=h.small;have M:=h.fit;have s1:=λW=>nW (b:=b) (o:=o) h.fit (k:=k) (n:=1) ad ad W;have cb:∀W,Ext w W->∀(cs:Array Value) (t:TypeId),(convert 143 9 (.slice (some ⟨b,o+k,none⟩) 1 (cap - k))).run prog (W.alloc (.cells cs t))=.ok (.string (s.extract k (k+1))) (W.alloc (.cells cs t)):=λW be cs t=>kb (h.on (be.alloc (.cells cs t))) (k:=k) (n:=1) (cap - k) ad;have U:=ae cb;clear cb;have gM:(0:Int)<=(k:Int):=ad;clear h;by_cases au:k+1<s.size
 .have s2:=λW=>nW (b:=b) (o:=o) M (k:=k) (n:=2) ad ad W;have c2:=λ(cs:Array Value) (t:TypeId)=>kb (H.on (LW.alloc (.cells cs t))) (k:=k) (n:=2) (cap - k) ad;simp only[Int.cast_ofNat_Int] at s1 s2;go_enter func145,ntmps145;go_wp2_with(fail);refine(pa _ 6 6 (fw.map strOf) _ _ (m1 w _ _ _ rfl rfl) ad).mono ?_;rintro e ab ⟨rfl,rfl⟩;rw[mP,gm];have bc:decide (2<=(s.data.toList.drop k).length)=true:=by simp;omega
  by_cases hm:(s.data.toList.drop k).take 2∈fw
  .have a3:=ae (show e5 (s.data.toList.drop k)=2 by unfold e5;rw[decide_eq_true hm,bc];rfl);rw[decide_eq_true hm];clear hm bc;exact vH
  .have a3:=ae (show e5 (s.data.toList.drop k)=if decide ((s.data.toList.drop k).take 1∈eP) then 1 else 0 by unfold e5;rw[decide_eq_false hm];rfl);rw[decide_eq_false hm];clear hm bc c2 s2;generalize be:World.alloc w _=W;have aw:=aW be;have c1:=U.o W aw;clear be;go_wp2_with(fail);refine(pa _ 17 17 (eP.map strOf) _ _ (m1 W _ _ _ rfl rfl) ad).mono ?_;rintro e ab ⟨rfl,rfl⟩;rw[mP,gm];by_cases hm:(s.data.toList.drop k).take 1∈eP
   .rw[decide_eq_true hm] at a3 ⊢;exact Ak
   .rw[decide_eq_false hm] at a3 ⊢;exact Ak
 .have bc:decide (2<=(s.data.toList.drop k).length)=false:=by simp;omega
  have df:decide ((k:Int)+1<(s.size:Int))=false:=by simp;omega
  have dd:¬(k:Int)+1<(s.size:Int):=ad;have a3:=ae (show e5 (s.data.toList.drop k)=if decide ((s.data.toList.drop k).take 1∈eP) then 1 else 0 by unfold e5;rw[bc,Bool.and_false];rfl);simp only[Int.cast_ofNat_Int] at s1;clear bc;go_enter func145,ntmps145;have c1:=U.o w LW;go_wp2_with(fail);refine(pa _ 17 17 (eP.map strOf) _ _ (m1 w _ _ _ rfl rfl) ad).mono ?_;rintro e ab ⟨rfl,rfl⟩;rw[mP,gm];by_cases hm:(s.data.toList.drop k).take 1∈eP
  .rw[decide_eq_true hm] at a3 ⊢;clear hm;exact vH
  .rw[decide_eq_false hm] at a3 ⊢;clear hm;exact vH
theorem fx.byte{s:ByteArray}(h:fx w b o cap s)(ap:k<s.size):w.cell? ⟨b,o+k,none⟩=some (.int .u8 (s[k].toNat:Int)):=h.bytes k ap
theorem da{s:ByteArray}(h:k<s.size):s.data.toList.drop k=s[k]::s.data.toList.drop (k+1):=by
 rw[List.drop_eq_getElem_cons (by simpa using h)];rfl
theorem rh(c:UInt8):pz c=true↔c.toNat=32\/c.toNat=9\/c.toNat=10\/c.toNat=13:=by
 simp only[pz,Bool.or_eq_true,beq_iff_eq,<-UInt8.toNat_inj];show ((c.toNat=32\/c.toNat=9)\/c.toNat=10)\/c.toNat=13↔_
 omega
theorem oX(c:UInt8):c=47↔c.toNat=47:=by rw[<-UInt8.toNat_inj];rfl
theorem x2(c:UInt8):c=10↔c.toNat=10:=by rw[<-UInt8.toNat_inj];rfl
theorem lu(h:pz c=true):aU false (c::l)=aU false l:=by rw[aU,if_pos h]
theorem nR(h:pz c=false)(au:¬(c=47/\l.head?=some 47)):aU false (c::l)=c::l:=by rw[aU,if_neg (by simp[h]),if_neg au]
theorem yp(h:c≠10):aU true (c::l)=aU true l:=by rw[aU,if_neg h]
theorem E2(h:c=47)(au:l.head?=some 47):aU false (c::l)=aU true (c::l):=by
 subst h;have a:aU false (47::l)=aU true l:=by rw[aU,if_neg (by decide),if_pos ⟨rfl,au⟩]
 exact a.trans (yp (by decide)).symm
theorem E4:aU true (10::l)=aU false (10::l):=by
 have a:aU true (10::l)=aU false l:=by rw[aU,if_pos rfl]
 exact a.trans (lu (by decide)).symm
theorem E3(b:Bool):aU b []=[]:=by cases b<;>rfl
theorem kS(s:ByteArray)(b o cap k:Nat)(w:World)(h:fx w b o cap s)(ap:k<=s.size) :
  Calls prog 140 #[.slice (some ⟨b,o,none⟩) s.size cap,.int .i64 k] w λe ab=>e=.returned (.int .i64 ((s.size:Int) - (aU false (s.data.toList.drop k)).length))/\w=ab:=by
 have H:=ae h;have bI:=h.small;clear h;go_enter func140,ntmps140;go_wp2
 go_loop [1] (λi=>∃j:Nat,j<=s.size/\i=.int .i64 j/\aU false (s.data.toList.drop k)=aU false (s.data.toList.drop j)) (λi=>s.size - (intOf i).toNat)
 case atStart=>exact⟨k,ap,rfl,rfl⟩
 case round=>
  obtain⟨j,bi,rfl,g⟩:=hrel;have t:=ae g;clear g;by_cases al:j<s.size
  .have hc:=H.byte al;have a1:(0:Int)<=(j:Int):=ad;have bs:(j:Int)<(s.size:Int):=ad;by_cases bp:s[j].toNat=32
   .have F:(((s[j].toNat:Nat):Int) == 32)=true:=by simp[bp]
    have ah:=ae (t.trans ((congrArg _ (da al)).trans (lu ((rh _).2 ad))));clear bp;go_wp2
    go_round
    case rel=>exact⟨j+1,ad,by go_num,ah.o⟩
    case measure=>exact aH
   by_cases a6:s[j].toNat=9
   .have cj:(((s[j].toNat:Nat):Int) == 9)=true:=by simp[a6]
    have n:(((s[j].toNat:Nat):Int) == 32)=false:=by simp;omega
    have ah:=ae (t.trans ((congrArg _ (da al)).trans (lu ((rh _).2 ad))));clear a6 bp;go_wp2
    go_round
    case rel=>exact⟨j+1,ad,by go_num,ah.o⟩
    case measure=>exact aH
   by_cases c:s[j].toNat=10
   .have Fs:(((s[j].toNat:Nat):Int) == 10)=true:=by simp[c]
    have n:(((s[j].toNat:Nat):Int) == 32)=false:=by simp;omega
    have A:(((s[j].toNat:Nat):Int) == 9)=false:=by simp;omega
    have ah:=ae (t.trans ((congrArg _ (da al)).trans (lu ((rh _).2 ad))));clear c bp a6;go_wp2
    go_round
    case rel=>exact⟨j+1,ad,by go_num,ah.o⟩
    case measure=>exact aH
   by_cases f:s[j].toNat=13
   .have E:(((s[j].toNat:Nat):Int) == 13)=true:=by simp[f]
    have n:(((s[j].toNat:Nat):Int) == 32)=false:=by simp;omega
    have A:(((s[j].toNat:Nat):Int) == 9)=false:=by simp;omega
    have x:(((s[j].toNat:Nat):Int) == 10)=false:=by simp;omega
    have ah:=ae (t.trans ((congrArg _ (da al)).trans (lu ((rh _).2 ad))));clear f bp a6 c;go_wp2
    go_round
    case rel=>exact⟨j+1,ad,by go_num,ah.o⟩
    case measure=>exact aH
   have n:(((s[j].toNat:Nat):Int) == 32)=false:=by simp;omega
   have A:(((s[j].toNat:Nat):Int) == 9)=false:=by simp;omega
   have x:(((s[j].toNat:Nat):Int) == 10)=false:=by simp;omega
   have D:(((s[j].toNat:Nat):Int) == 13)=false:=by simp;omega
   have nt:pz s[j]=false:=by
    cases hw:pz s[j] with
    | false=>rfl
    | true=>have:=(rh _).1 hw;omega
   have aC:=ae nt;clear nt bp a6 c f;have q:∀l:List UInt8,l=s.data.toList.drop j->((s.size:Int) - l.length)=j:=λl hl=>by subst hl;simp;omega
   by_cases au:j+1<s.size
   .have ca:=H.byte au;have br:((j+1:Nat):Int)=(j:Int)+1:=ad;have dz:decide ((j:Int)+1<(s.size:Int))=true:=by simp;omega
    by_cases a:s[j].toNat=47
    .have y:(((s[j].toNat:Nat):Int) == 47)=true:=by simp[a]
     by_cases d:s[j+1].toNat=47
     .have z:(((s[j+1].toNat:Nat):Int) == 47)=true:=by simp[d]
      have bV:=ae (show aU false (s.data.toList.drop k)=aU true (s.data.toList.drop j) by
       rw[t.o,da al];refine E2 ((oX _).2 a) ?_;rw[da au,List.head?_cons,(oX _).2 d])
      have bY:=ae (show s[j].toNat≠10 by omega);clear a d;go_wp2
      go_loop [1] (λi=>∃m:Nat,j<=m/\m<=s.size/\i=.int .i64 m/\aU false (s.data.toList.drop k)=aU true (s.data.toList.drop m)) (λi=>s.size - (intOf i).toNat)
      case atStart=>exact⟨j,Lk _,bi,rfl,bV.o⟩
      case round=>
       obtain⟨m,B,hm,rfl,P⟩:=hrel;have cR:=ae P;clear P;by_cases cf:m<s.size
       .have v:=H.byte cf;have b2:(0:Int)<=(m:Int):=ad;have cG:(m:Int)<(s.size:Int):=ad;by_cases c:s[m].toNat=10
        .have Fs:(((s[m].toNat:Nat):Int) != 10)=false:=by simp[c]
         have C:m≠j:=by
          rintro rfl;exact bY.o c
         have bo:=ae (show aU false (s.data.toList.drop k)=aU false (s.data.toList.drop m) by rw[cR.o,da cf,(x2 _).2 c];exact E4);clear c;go_wp2
         go_round
         case rel=>exact⟨m,hm,rfl,bo.o⟩
         case measure=>exact aH
        .have Fs:(((s[m].toNat:Nat):Int) != 10)=true:=by simp;omega
         have bo:=ae (show aU false (s.data.toList.drop k)=aU true (s.data.toList.drop (m+1)) by rw[cR.o,da cf];exact yp (λh=>c ((x2 _).1 h)));clear c;go_wp2
         go_round
         case rel=>exact⟨m+1,ad,ad,by go_num,bo.o⟩
         case measure=>exact aH
       .have u:m=s.size:=ad;have bo:=ae (show aU false (s.data.toList.drop k)=aU false (s.data.toList.drop m) by
         rw[cR.o,u,LQ (by simp)];rfl)
        clear u;go_wp2
        go_round
        case rel=>exact⟨m,hm,rfl,bo.o⟩
        case measure=>exact aH
     .have z:(((s[j+1].toNat:Nat):Int) == 47)=false:=by simp;omega
      have a3:=ae (q _ (t.trans ((congrArg _ (da al)).trans ((nR aC.o (by
       rintro⟨_,h⟩;rw[da au,List.head?_cons] at h;injection h with h;exact d ((oX _).1 h))).trans (da al).symm))))
      clear a d q;go_wp2;go_ret;exact⟨ret_int a3.symm,rfl⟩
    .have y:(((s[j].toNat:Nat):Int) == 47)=false:=by simp;omega
     have a3:=ae (q _ (t.trans ((congrArg _ (da al)).trans ((nR aC.o (λh=>a ((oX _).1 h.1))).trans (da al).symm))));clear a q;go_wp2;go_ret;exact⟨ret_int a3.symm,rfl⟩
   .have dz:decide ((j:Int)+1<(s.size:Int))=false:=by simp;omega
    have a3:=ae (q _ (t.trans ((congrArg _ (da al)).trans ((nR aC.o (by
     rintro⟨_,h⟩;rw[LQ (by simp;omega)] at h;cases h)).trans (da al).symm))))
    clear au q;go_wp2;go_ret;exact⟨ret_int a3.symm,rfl⟩
  .have r:j=s.size:=ad;have a3:=ae (show (s.size:Int) - (aU false (s.data.toList.drop k)).length=s.size by rw[t.o,r,LQ (by simp)];simp[E3]);subst r;go_wp2;go_ret;exact⟨ret_int a3.symm,rfl⟩
def jy(n:Nat):List UInt8:=if n<10 then [UInt8.ofNat (48+n)] else jy (n / 10)++[UInt8.ofNat (48+n % 10)]
 termination_by n
theorem mF(d:Nat)(h:d<10):(UInt8.ofNat (48+d)).toNat=48+d:=by simp;omega
theorem um(n:Nat):(jy n).all bF=true/\∃c l,jy n=c::l:=by
 induction n using Nat.strongRecOn with
 | _ n ao=>
  rw[jy];split
  .rename_i h;refine⟨?_,_,_,rfl⟩;simp only[List.all_cons,List.all_nil,Bool.and_true,bF,mF n h,Lw,LR];omega
  .obtain⟨ac,c,l,au⟩:=ao (n / 10) ad;refine⟨?_,c,l++[UInt8.ofNat (48+n % 10)],by rw[au];rfl⟩;simp only[List.all_append,ac,List.all_cons,List.all_nil,Bool.and_true,Bool.true_and,bF,mF (n % 10) ad,Lw,LR];omega
theorem r9:∀(ck cP:List UInt8) (n:Int),0<=n->ck.all bF=true->iL n (ck++cP)=if iL n ck<0 then -1 else iL (iL n ck) cP
 | [],cP,n,hn,_=>by
  have h0:iL n []=n:=rfl
  rw[LN,h0,if_neg ad]
 | c::ck,cP,n,hn,h=>by
  simp only[List.all_cons,Lw] at h;have hd:48<=c.toNat:=by have:=h.1;simp only[bF,Lw,LR] at this;exact this.1
  simp only[Lz,iL];split
  .simp
  .exact r9 ck cP _ ad h.2
theorem y9(n:Nat)(h:n<=9223372036854775807):qy (jy n)=n:=by
 unfold qy
 induction n using Nat.strongRecOn with
 | _ n ao=>
  rw[jy];split
  .rename_i h;simp only[iL,mF n h];rw[if_neg ad];omega
  .have i:=ao (n / 10) ad ad;rw[r9 _ _ _ ad (um _).1,i,if_neg ad];simp only[iL,mF (n % 10) ad];rw[if_neg ad];omega
def Atom.last(aV:List Atom):Option Atom:=aV.getLast?
theorem eu:∀(aV f:List Atom),Atom.chain aV->Atom.chain f->(∀a b,aV.getLast?=some a->f.head?=some b->a.fits b)->Atom.chain (aV++f)
 | [],f,_,O,_=>O
 | [a],[],bz,_,_=>bz
 | [a],b::f,bz,O,J=>⟨bz,J a b rfl rfl,O⟩
 | a::r::aV,f,bz,O,J=>by
  have ao:=eu (r::aV) f bz.2.2 O (λx y hx bb=>J x y (by rw[List.getLast?_cons_cons];exact hx) bb);exact⟨bz.1,bz.2.1,ao⟩
theorem count_append:∀(aV f:List Atom),Atom.count (aV++f)=Atom.count aV+Atom.count f
 | [],f=>by simp[Atom.count]
 | a::aV,f=>by
  have ao:=count_append aV f;cases a<;>simp only[Lz,Atom.count,ao]<;>omega
def aY(aV:List Atom):List UInt8:=aV.flatMap Atom.bytes
theorem bh(aV f:List Atom):aY (aV++f)=aY aV++aY f:=List.flatMap_append
theorem bf(a:Atom)(f:List Atom):aY (a::f)=a.bytes++aY f:=LH
theorem pA(c:UInt8)(b:Atom):(Atom.ws c).fits b:=⟨λh=>by simp[Atom.kt] at h,λs h=>by cases h⟩
theorem o9(a:Atom)(c:UInt8)(h:pz c=true):a.fits (.ws c):=by
 refine⟨λ_=>rfl,λs _ _ d hd=>?_⟩;simp only[Atom.head,LP] at hd;subst hd;have key:∀s∈eP,∀d:UInt8,(d=32\/d=9\/d=10\/d=13)->(s++[d])∉fw/\¬(s=[47]/\d=47):=by
  intro s hs d hd;rcases hd with rfl|rfl|rfl|rfl<;>revert s<;>decide
 refine key s (by assumption) c ?_;simp only[pz,Bool.or_eq_true,beq_iff_eq] at h;rcases h with((h|h)|h)|h<;>simp[h]
theorem xV(a b:Atom)(bz:a.kt=true)(O:b.kt=false):a.fits b:=⟨λ_=>O,λs h=>by subst h;simp[Atom.kt] at bz⟩
def tF(a:Atom):Prop:=a.kt=true/\a.fZ\/a=.sg [45]\/a=.sg [33]\/a=.sg [40]
def Hm(a:Atom):Prop:=a.kt=true\/a=.sg [41]\/a=.sg [93]
theorem FW(a:Atom)(h:a.kt=true)(a9:a.fZ)(c:UInt8)(hc:a.head=some c):cf c=true:=by
 cases a with
 | ws _=>simp[Atom.kt] at h
 | sg _=>simp[Atom.kt] at h
 | word s=>
  obtain⟨⟨d,l,rfl,ac,_⟩,_⟩:=a9;simp only[Atom.head,List.head?_cons,LP] at hc;subst hc
  simp[cf,ac]
 | num s=>
  obtain⟨⟨d,l,rfl⟩,ac,_⟩:=a9;simp only[Atom.head,List.head?_cons,LP] at hc;subst hc;simp only[List.all_cons,Lw] at ac;simp[cf,ac.1]
theorem nQ(s:List UInt8)(hs:s=[45]\/s=[33]\/s=[40]\/s=[91])(b:Atom)(O:tF b):(Atom.sg s).fits b:=by
 refine⟨λh=>by simp[Atom.kt] at h,λt ht _ c hc=>?_⟩;injection ht with ht;subst ht;have Z:cf c=true\/c=45\/c=33\/c=40:=by
  rcases O with⟨ac,au⟩|rfl|rfl|rfl
  .exact .inl (FW b ac au c hc)
  all_goals simp[Atom.head] at hc;subst hc;simp
 have bf:c≠61/\c≠38/\c≠124/\c≠47:=by
  rcases Z with h|rfl|rfl|rfl
  .refine⟨?_,?_,?_,?_⟩<;>(rintro rfl;revert h;decide)
  all_goals decide
 rcases hs with rfl|rfl|rfl|rfl<;>simp[fw,bf]
theorem o2(a:Atom)(bz:Hm a)(s:List UInt8)(hs:s=[41]\/s=[93]\/s=[59]\/s=[44]):a.fits (.sg s):=by
 rcases bz with h|rfl|rfl
 .exact xV _ _ h rfl
 all_goals
  refine⟨λh=>by simp[Atom.kt] at h,λt ht _ c hc=>?_⟩;injection ht with ht;subst ht;rcases hs with rfl|rfl|rfl|rfl<;>(simp[Atom.head] at hc;subst hc;decide)
def bg:VE->Int
 | .num _=>1
 | .g7 _=>2
 | .loc _=>18
 | .iF _=>19
 | .un op _=>op
 | .bin op _ _=>op
def cX(op:Int):Int:=if op=17 then 0 else if op=16 then 1 else if 10<=op/\op<=15 then 2 else if op=8\/op=9 then 3 else if 5<=op/\op<=7 then 4 else if op=3\/op=4 then 5 else 6
def dF(op arg:Int)(second:Bool):Bool:=decide (cX arg<cX op) || (cX arg == cX op && second)
def gW(op:Int):List UInt8:=
 if op=5 then [42] else if op=6 then [47] else if op=7 then [37] else if op=8 then [43] else if op=9 then [45] else if op=10 then [60] else if op=11 then [60,61]
 else if op=12 then [62] else if op=13 then [62,61] else if op=14 then [61,61] else if op=15 then [33,61] else if op=16 then [38,38] else [124,124]
def par(b:Bool)(aV:List Atom):List Atom:=if b then .sg [40]::(aV++[.sg [41]]) else aV
def cq:VE->List Atom
 | .num n=>[.num (jy n.toNat)]
 | .g7 s=>[.word s.data.toList]
 | .loc _=>[]
 | .iF _=>[]
 | .un op x=>.sg (if op=3 then [45] else [33])::par (dF op (bg x) false) (cq x)
 | .bin op x y=>par (dF op (bg x) false) (cq x)++(.ws 32::.sg (gW op)::.ws 32::par (dF op (bg y) true) (cq y))
def VE.src(N:L4):Nat->VE->Prop
 | _,.num n=>0<=n/\n<4611686018427387904
 | _,.g7 s=>s∈N
 | _,.loc _=>False
 | _,.iF _=>False
 | 0,.un _ _=>False
 | 0,.bin _ _ _=>False
 | d+1,.un op x=>(op=3\/op=4)/\VE.src N d x
 | d+1,.bin op x y=>(5<=op/\op<=17)/\VE.src N d x/\VE.src N d y
def dM(N:L4):Prop:=∀s∈N,bH s.data.toList=true
structure lA(aV:List Atom):Prop where
 chain:Atom.chain aV
 first:∃a,aV.head?=some a/\tF a
 last:∃a,aV.getLast?=some a/\Hm a
theorem getLast_append{aV f:List Atom}(h:f.getLast?=some a):(aV++f).getLast?=some a:=by
 rw[List.getLast?_append,h];rfl
theorem head_append{aV f:List Atom}(h:aV.head?=some a):(aV++f).head?=some a:=by
 rw[List.head?_append,h];rfl
theorem cT{aV:List Atom}(bz:a.fZ)(h:Atom.chain aV)(J:∀b,aV.head?=some b->a.fits b):Atom.chain (a::aV):=
 eu [a] aV bz h λx b hx O=>by
  simp at hx;subst hx;exact J b O
theorem cm(h:s∈eP\/s∈fw):(Atom.sg s).fZ:=h.symm
theorem lA.par{aV:List Atom}(h:lA aV)(b:Bool):lA (par b aV):=by
 cases b
 .exact h
 .obtain⟨a,bz,hs⟩:=h.first;obtain⟨z,bv,he⟩:=h.last;refine⟨?_,⟨_,rfl,.inr (.inr (.inr rfl))⟩,⟨.sg [41],?_,.inr (.inl rfl)⟩⟩
  .refine cT (cm (.inl (by decide))) (eu _ _ h.chain (cm (.inl (by decide))) λx y hx bb=>?_) λy bb=>?_
   .rw[bv] at hx;injection hx with hx;subst hx;simp at bb;subst bb;exact o2 _ he _ (.inl rfl)
   .rw[head_append bz] at bb;injection bb with bb;subst bb;exact nQ _ (.inr (.inr (.inl rfl))) _ hs
  .show (Atom.sg [40]::(aV++[Atom.sg [41]])).getLast?=some (.sg [41])
   rw[<-List.cons_append];exact getLast_append rfl
theorem xb(op:Int):gW op∈eP\/gW op∈fw:=by
 unfold gW
 repeat' split
 all_goals first|exact .inl (by decide)|exact .inr (by decide)
theorem dJ(h:bH s=true):(Atom.word s).fZ:=by
 cases s with
 | nil=>simp[bH] at h
 | cons c l=>
  simp only[bH,Lw,LR] at h;exact⟨⟨c,l,rfl,h.1.1.1,h.1.1.2⟩,.inr h.1.2⟩
theorem qz(h:n<=9223372036854775807):(Atom.num (jy n)).fZ:=by
 obtain⟨ac,au⟩:=um n;exact⟨au,ac,by rw[y9 n h];omega⟩
theorem Fg{aV:List Atom}(hs:s=[45]\/s=[33])(h:lA aV):lA (.sg s::aV):=by
 obtain⟨a,bz,ch⟩:=h.first;obtain⟨z,bv,he⟩:=h.last;refine⟨cT (cm (.inl (by rcases hs with rfl|rfl<;>decide))) h.chain λb O=>?_,⟨_,rfl,by rcases hs with rfl|rfl<;>simp[tF]⟩,⟨z,?_,he⟩⟩
 .rw[bz] at O;injection O with O;subst O;exact nQ _ (by rcases hs with rfl|rfl<;>simp) _ ch
 .show ([Atom.sg s]++aV).getLast?=some z
  exact getLast_append bv
theorem et{N:L4}(hN:dM N):∀(d:Nat) (x:VE),x.src N d->lA (cq x)
 | d,.num n,h=>by
  have F:0<=n/\n<4611686018427387904:=by cases d<;>exact h
  have a9:=qz (n:=n.toNat) ad
  exact⟨a9,⟨_,rfl,.inl ⟨rfl,a9⟩⟩,⟨_,rfl,.inl rfl⟩⟩
 | d,.g7 s,h=>by
  have F:s∈N:=by cases d<;>exact h
  have a9:=dJ (hN s F)
  exact⟨a9,⟨_,rfl,.inl ⟨rfl,a9⟩⟩,⟨_,rfl,.inl rfl⟩⟩
 | d,.loc _,h=>by cases d<;>exact h.elim
 | d,.iF _,h=>by cases d<;>exact h.elim
 | 0,.un _ _,h=>h.elim
 | 0,.bin _ _ _,h=>h.elim
 | d+1,.un op x,h=>by
  unfold cq
  exact Fg (by split<;>simp) ((et hN d x h.2).par (dF op (bg x) false))
 | d+1,.bin op x y,h=>by
  have i:=(et hN d x h.2.1).par (dF op (bg x) false);have c:=(et hN d y h.2.2).par (dF op (bg y) true);unfold cq;generalize par (dF op (bg x) false) (cq x)=aV at *;generalize par (dF op (bg y) true) (cq y)=f at *;obtain⟨a,bz,ch⟩:=i.first;obtain⟨z,bv,he⟩:=c.last;refine⟨eu _ _ i.chain ?_ ?_,⟨a,head_append bz,ch⟩,⟨z,getLast_append ?_,he⟩⟩
  .refine cT rfl (cT (cm (xb op)) (cT rfl c.chain λb _=>pA _ b) λb O=>?_) λb _=>pA _ b;simp at O;subst O;exact o9 _ _ rfl
  .intro x y _ bb;simp at bb;subst bb;exact o9 _ _ rfl
  .show ([Atom.ws 32,Atom.sg (gW op),Atom.ws 32]++f).getLast?=some z
   exact getLast_append bv
structure Env where
 af:List bD
 params:List (ByteArray×Bool)
 funcs:List (ByteArray×List (ByteArray×Bool))
def su(G:Env)(V:L4)(r:eS):Prop:=
 (∃m∈G.af,m.name=r.name/\(0<m.size->∃e,r.idx=some e/\e.src V 2)/\(¬0<m.size->r.idx=none))\/((r.name,true)∈G.params/\r.idx=none)
def JC(G:Env)(V:L4)(p:ByteArray×Bool):ds->Prop
 | .mx r=>p.2=true/\su G V r
 | .ex e=>p.2=false/\e.src V 2
def iR(G:Env)(V:L4):List (ByteArray×Bool)->List ds->Prop
 | [],[]=>True
 | p::ps,a::aV=>JC G V p a/\iR G V ps aV
 | _,_=>False
def e6(G:Env):(d:Nat)->(V T:L4)->an->Prop
 | _,_,_,.nil=>True
 | d,V,T,.set true n e rest=>bH n.data.toList=true/\n∉T/\e.src V 2/\e6 G d (V++[n]) (T++[n]) rest
 | d,V,T,.set false n e rest=>n∈V/\e.src V 2/\e6 G d V T rest
 | d,V,T,.call _ n aV rest=>(∃ps,(n,ps)∈G.funcs/\iR G V ps aV)/\e6 G d V T rest
 | d,V,T,.lock _ r rest=>su G V r/\e6 G d V T rest
 | 0,_,_,.ite ..=>False
 | 0,_,_,.gz ..=>False
 | d+1,V,T,.ite e th el rest=>e.src V 2/\e6 G d V T th/\e6 G d V T el/\e6 G (d+1) V T rest
 | d+1,V,T,.gz e th rest=>e.src V 2/\e6 G d V T th/\e6 G (d+1) V T rest
 | d,V,T,.ret rest=>e6 G d V T rest
def an.isNil:an->Bool
 | .nil=>true
 | _=>false
def an.num:an->Nat
 | .nil=>0
 | .set _ _ _ rest=>rest.num+1
 | .call _ _ _ rest=>rest.num+1
 | .lock _ _ rest=>rest.num+1
 | .ite _ th el rest=>th.num+el.num+rest.num+1
 | .gz _ th rest=>th.num+rest.num+1
 | .ret rest=>rest.num+1
def kw(s:List UInt8):Atom:=.word s
def iz(r:eS):List Atom:=.word r.name.data.toList::(match r.idx with|none=>[]|some e=>.sg [91]::(cq e++[.sg [93]]))
def fQ:List UInt8:=[109,117,116,101,120]
def fG:ds->List Atom
 | .mx r=>kw fQ::.ws 32::iz r
 | .ex e=>cq e
def ef:List (List Atom)->List Atom
 | []=>[]
 | [a]=>a
 | a::b::l=>a++(.sg [44]::.ws 32::ef (b::l))
def iY(aV:List ds):List Atom:=.sg [40]::(ef (aV.map fG)++[.sg [41]])
def fC(n:Nat):List Atom:=List.replicate n (.ws 9)
def aZ:Nat->an->List Atom
 | _,.nil=>[]
 | t,.set v n e rest=>fC t++((if v then [kw [118,97,114],.ws 32] else [])++(.word n.data.toList::.ws 32::.sg [61]::.ws 32::(cq e++(.sg [59]::.ws 10::aZ t rest))))
 | t,.call g n aV rest=>fC t++((if g then [kw [103,111],.ws 32] else [])++(.word n.data.toList::(iY aV++(.sg [59]::.ws 10::aZ t rest))))
 | t,.lock u r rest=>fC t++(kw (if u then [117,110,108,111,99,107] else [108,111,99,107])::.ws 32::(iz r++(.sg [59]::.ws 10::aZ t rest)))
 | t,.ite e th el rest=>fC t++(kw [105,102]::.ws 32::(cq e++(.ws 32::.sg [123]::.ws 10::(aZ (t+1) th++(fC t++(.sg [125] ::
   ((if el.isNil then [] else .ws 32::kw [101,108,115,101]::.ws 32::.sg [123]::.ws 10::(aZ (t+1) el++(fC t++[.sg [125]])))++(.ws 10::aZ t rest))))))))
 | t,.gz e th rest=>fC t++(kw [119,104,105,108,101]::.ws 32::(cq e++(.ws 32::.sg [123]::.ws 10::(aZ (t+1) th++(fC t++(.sg [125]::.ws 10::aZ t rest))))))
 | t,.ret rest=>fC t++(kw [114,101,116,117,114,110]::.sg [59]::.ws 10::aZ t rest)
theorem fF(h:s∈tT):(kw s).fZ:=by
 have key:∀s∈tT,(match s with|[]=>false|c::l=>b1 c && l.all cf)=true:=by decide
 have:=key s h
 cases s with
 | nil=>cases this
 | cons c l=>
  simp only[Lw] at this;exact⟨⟨c,l,rfl,this.1,this.2⟩,.inl (by simpa[dI] using h)⟩
section
variable {aV f:List Atom}
theorem c9(hc:pz c=true)(h:Atom.chain aV):Atom.chain (.ws c::aV):=cT hc h λb _=>pA c b
theorem cb(bz:a.fZ)(hc:pz c=true)(h:Atom.chain (.ws c::aV)):Atom.chain (a::.ws c::aV):=
 cT bz h λb O=>by
  simp at O;subst O;exact o9 _ _ hc
theorem iA(bz:a.fZ)(hl:a.kt=true)(h:Atom.chain (.sg s::aV)):Atom.chain (a::.sg s::aV):=
 cT bz h λb O=>by
  simp at O;subst O;exact xV _ _ hl rfl
theorem ff(ac:lA aV)(hs:s=[41]\/s=[93]\/s=[59]\/s=[44])(h:Atom.chain (.sg s::f)):Atom.chain (aV++.sg s::f):=
 eu _ _ ac.chain h λa b bz O=>by
  obtain⟨z,bv,he⟩:=ac.last;rw[bv] at bz;injection bz with bz;subst bz;simp at O;subst O;exact o2 _ he _ hs
theorem rO(ac:Atom.chain aV)(hc:pz c=true)(h:Atom.chain (.ws c::f)):Atom.chain (aV++.ws c::f):=
 eu _ _ ac h λa b _ O=>by
  simp at O;subst O;exact o9 _ _ hc
theorem oY(hs:s=[40]\/s=[91])(ac:lA aV)(h:Atom.chain (aV++f)):Atom.chain (.sg s::(aV++f)):=
 cT (cm (.inl (by rcases hs with rfl|rfl<;>decide))) h λb O=>by
  obtain⟨a,bz,ch⟩:=ac.first;rw[head_append bz] at O;injection O with O;subst O;exact nQ _ (by rcases hs with rfl|rfl<;>simp) _ ch
def hR(aV:List Atom):Prop:=Atom.chain aV/\∀a,aV.getLast?=some a->∃c,a=.ws c
theorem hR.app(h:hR aV)(O:Atom.chain f):Atom.chain (aV++f):=
 eu _ _ h.1 O λa b bz _=>by
  obtain⟨c,rfl⟩:=h.2 a bz;exact pA _ _
theorem gw(n:Nat):hR (fC n):=by
 induction n with
 | zero=>exact⟨trivial,λa h=>by simp[fC] at h⟩
 | succ n ao=>
  refine⟨c9 rfl ao.1,λa h=>?_⟩;simp only[fC,List.getLast?_replicate] at h;simp at h;exact⟨9,h.symm⟩
theorem uI{l:List Atom}(h:∀a,m.getLast?=some a->∃c,a=.ws c)(hm:m≠[])(bz:(l++m).getLast?=some a):∃c,a=.ws c:=by
 rw[List.getLast?_append] at bz
 cases hl:m.getLast? with
 | none=>exact absurd (List.getLast?_eq_none_iff.1 hl) hm
 | some b=>
  rw[hl] at bz;simp at bz;subst bz;exact h _ hl
end
theorem pS{G:Env}{V:L4}(hV:dM V)(hM:∀m∈G.af,bH m.name.data.toList=true)(a1:∀p∈G.params,bH p.1.data.toList=true)(r:eS)(h:su G V r):lA (iz r):=by
 have hn:(Atom.word r.name.data.toList).fZ:=by
  rcases h with⟨m,hm,he,_⟩|⟨hp,_⟩
  .rw[<-he];exact dJ (hM m hm)
  .exact dJ (a1 _ hp)
 unfold iz
 cases an:r.idx with
 | none=>exact⟨hn,⟨_,rfl,.inl ⟨rfl,hn⟩⟩,⟨_,rfl,.inl rfl⟩⟩
 | some e=>
  have hs:e.src V 2:=by
   exact Hd
  have ao:=et hV 2 e hs;refine⟨iA hn rfl (oY (.inr rfl) ao (ff ao (.inr (.inl rfl)) (cm (.inl (by decide))))),⟨_,rfl,.inl ⟨rfl,hn⟩⟩,⟨.sg [93],?_,.inr (.inr rfl)⟩⟩;show ((Atom.word r.name.data.toList::.sg [91]::cq e)++[Atom.sg [93]]).getLast?=_
  exact getLast_append rfl
theorem nI:∀(l:List (List Atom)),(∀a∈l,lA a)->l≠[]->lA (ef l)
 | [],_,h=>absurd rfl h
 | [a],h,_=>h a (by simp)
 | a::b::l,h,_=>by
  have ao:=nI (b::l) (λx hx=>h x (by simp[hx])) (by simp);have bz:=h a (by simp);obtain⟨x,hx,hs⟩:=bz.first;obtain⟨z,bv,he⟩:=ao.last;refine⟨ff bz (.inr (.inr (.inr rfl))) (cb (cm (.inl (by decide))) rfl (c9 rfl ao.chain)),⟨x,head_append hx,hs⟩,⟨z,?_,he⟩⟩;show (a++([Atom.sg [44],Atom.ws 32]++ef (b::l))).getLast?=some z
  exact getLast_append (getLast_append bv)
section
variable {G:Env} {V:L4} (hV:dM V) (hM:∀m∈G.af,bH m.name.data.toList=true) (a1:∀p∈G.params,bH p.1.data.toList=true)
include hV hM a1
theorem wc(p:ByteArray×Bool)(a:ds)(h:JC G V p a):lA (fG a):=by
 cases a with
 | ex e=>exact et hV 2 e h.2
 | mx r=>
  have ao:=pS hV hM a1 r h.2;have ap:(kw fQ).fZ:=fF (by decide);obtain⟨z,bv,he⟩:=ao.last;refine⟨cb ap rfl (c9 rfl ao.chain),⟨_,rfl,.inl ⟨rfl,ap⟩⟩,⟨z,?_,he⟩⟩;show ([kw fQ,Atom.ws 32]++iz r).getLast?=some z
  exact getLast_append bv
theorem vy:∀(ps:List (ByteArray×Bool)) (aV:List ds),iR G V ps aV->(∀a∈aV.map fG,lA a)/\aV.length=ps.length
 | [],[],_=>⟨λa h=>by simp at h,rfl⟩
 | p::ps,a::aV,h=>by
  obtain⟨ac,au⟩:=vy ps aV h.2;refine⟨λx hx=>?_,by simp[au]⟩;simp only[Lq,LC] at hx;rcases hx with rfl|hx
  .exact wc hV hM a1 p a h.1
  .exact ac x hx
 | [],_::_,h=>h.elim
 | _::_,[],h=>h.elim
theorem rn(ps:List (ByteArray×Bool))(aV:List ds)(h:iR G V ps aV){f:List Atom}(O:Atom.chain (.sg [59]::f)):Atom.chain (iY aV++.sg [59]::f):=by
 have q:Atom.chain (.sg [41]::.sg [59]::f):=cT (cm (.inl (by decide))) O λb O=>by
  simp at O;subst O;exact o2 _ (.inr (.inl rfl)) _ (.inr (.inr (.inl rfl)))
 obtain⟨ac,_⟩:=vy hV hM a1 ps aV h
 cases aV with
 | nil=>
  refine cT (cm (.inl (by decide))) q λb O=>?_
  exact zH
 | cons a l=>
  have ao:=nI ((a::l).map fG) ac (by simp);show Atom.chain (Atom.sg [40]::((ef ((a::l).map fG)++[Atom.sg [41]])++Atom.sg [59]::f))
  rw[Ly];exact oY (.inl rfl) ao (ff ao (.inl rfl) q)
end
def lB(l:List Atom):Prop:=l≠[]/\∀a,l.getLast?=some a->∃c,a=.ws c
theorem lB.cons{x:Atom}{l:List Atom}(h:lB l):lB (x::l):=
 ⟨by simp,λa bz=>uI (l:=[x]) h.2 h.1 (by simpa using bz)⟩
theorem lB.app{l:List Atom}(h:lB m):lB (l++m):=
 ⟨by have:=h.1;simp[this],λa bz=>uI h.2 h.1 bz⟩
theorem lB.nl{l:List Atom}(h:∀a,l.getLast?=some a->∃c,a=.ws c):lB (.ws 10::l):=by
 refine⟨by simp,λa bz=>?_⟩
 cases l with
 | nil=>simp at bz;exact⟨10,bz.symm⟩
 | cons x l=>exact h a (by rw[List.getLast?_cons_cons] at bz;exact bz)
theorem dQ:∀(b:an) (t:Nat) (a:Atom),(aZ t b).getLast?=some a->∃c,a=.ws c
 | .nil,t,a,h=>by simp[aZ] at h
 | .set v n e rest,t,a,h=>by
  unfold aZ at h
  exact(lB.app (.app (.cons (.cons (.cons (.cons (.app (.cons (.nl (dQ rest t)))))))))).2 a h
 | .call g n aV rest,t,a,h=>by
  unfold aZ at h
  exact(lB.app (.app (.cons (.app (.cons (.nl (dQ rest t))))))).2 a h
 | .lock u r rest,t,a,h=>by
  unfold aZ at h
  exact(lB.app (.cons (.cons (.app (.cons (.nl (dQ rest t))))))).2 a h
 | .ite e th el rest,t,a,h=>by
  unfold aZ at h
  exact(lB.app (.cons (.cons (.app (.cons (.cons (.cons (.app (.app (.cons (.app (.nl (dQ rest t))))))))))))).2 a h
 | .gz e th rest,t,a,h=>by
  unfold aZ at h
  exact(lB.app (.cons (.cons (.app (.cons (.cons (.cons (.app (.app (.cons (.nl (dQ rest t)))))))))))).2 a h
 | .ret rest,t,a,h=>by
  unfold aZ at h;exact(lB.app (.cons (.cons (.nl (dQ rest t))))).2 a h
structure n7(G:Env):Prop where
 af:∀m∈G.af,bH m.name.data.toList=true
 params:∀p∈G.params,bH p.1.data.toList=true
 funcs:∀f∈G.funcs,bH f.1.data.toList=true/\f.2.length<=2
theorem j5{V:L4}{n:ByteArray}(h:dM V)(hn:bH n.data.toList=true):dM (V++[n]):=by
 intro s hs;simp only[Lt,LO] at hs;rcases hs with hs|rfl
 .exact h s hs
 .exact hn
theorem cZ{G:Env}(hG:n7 G):∀(b:an) (d t:Nat) (V T:L4),dM V->e6 G d V T b->Atom.chain (aZ t b)
 | .nil,d,t,V,T,_,_=>trivial
 | .set v n e rest,d,t,V,T,hV,h=>by
  have a:(Atom.sg [59]).fZ:=cm (.inl (by decide));have f:(Atom.sg [61]).fZ:=cm (.inl (by decide));unfold aZ
  cases v with
  | true=>
   have F:bH n.data.toList=true/\n∉T/\e.src V 2/\e6 G d (V++[n]) (T++[n]) rest:=by cases d<;>exact h
   have ao:=cZ hG rest d t _ _ (j5 hV F.1) F.2.2.2;have aw:=et hV 2 e F.2.2.1
   exact(gw t).app (cb (fF (by decide)) rfl (c9 rfl (cb (dJ F.1) rfl (c9 rfl (cb f rfl (c9 rfl (ff aw (.inr (.inr (.inl rfl))) (cb a rfl (c9 rfl ao)))))))))
  | false=>
   have F:n∈V/\e.src V 2/\e6 G d V T rest:=by cases d<;>exact h
   have ao:=cZ hG rest d t _ _ hV F.2.2;have aw:=et hV 2 e F.2.1
   exact(gw t).app (cb (dJ (hV n F.1)) rfl (c9 rfl (cb f rfl (c9 rfl (ff aw (.inr (.inr (.inl rfl))) (cb a rfl (c9 rfl ao)))))))
 | .call g n aV rest,d,t,V,T,hV,h=>by
  have F:(∃ps,(n,ps)∈G.funcs/\iR G V ps aV)/\e6 G d V T rest:=by cases d<;>exact h
  obtain⟨⟨ps,J,has⟩,ba⟩:=F;have ao:=cZ hG rest d t _ _ hV ba;have a:(Atom.sg [59]).fZ:=cm (.inl (by decide));have aX:=rn hV hG.af hG.params ps aV has (cb a rfl (c9 (c:=10) rfl ao));have be:Atom.chain (.word n.data.toList::(iY aV++(.sg [59]::.ws 10::aZ t rest))):=iA (dJ (hG.funcs _ J).1) rfl aX;unfold aZ
  cases g with
  | true=>exact(gw t).app (cb (fF (by decide)) rfl (c9 rfl be))
  | false=>exact(gw t).app be
 | .lock u r rest,d,t,V,T,hV,h=>by
  have F:su G V r/\e6 G d V T rest:=by cases d<;>exact h
  have ao:=cZ hG rest d t _ _ hV F.2;have cB:=pS hV hG.af hG.params r F.1;have a:(Atom.sg [59]).fZ:=cm (.inl (by decide));unfold aZ
  exact(gw t).app (cb (fF (by cases u<;>decide)) rfl (c9 rfl (ff cB (.inr (.inr (.inl rfl))) (cb a rfl (c9 rfl ao)))))
 | .ite e th el rest,0,t,V,T,hV,h=>h.elim
 | .gz e th rest,0,t,V,T,hV,h=>h.elim
 | .ite e th el rest,d+1,t,V,T,hV,h=>by
  have j:=cZ hG th d (t+1) _ _ hV h.2.1;have l:=cZ hG el d (t+1) _ _ hV h.2.2.1;have ao:=cZ hG rest (d+1) t _ _ hV h.2.2.2;have aw:=et hV 2 e h.1;have k:(Atom.sg [123]).fZ:=cm (.inl (by decide));have i:(Atom.sg [125]).fZ:=cm (.inl (by decide));have e1:hR (aZ (t+1) th):=⟨j,dQ th _⟩
  have e2:hR (aZ (t+1) el):=⟨l,dQ el _⟩
  have ca:Atom.chain (.ws 10::aZ t rest):=c9 rfl ao;have tail:Atom.chain (.sg [125]::((if el.isNil then [] else .ws 32::kw [101,108,115,101]::.ws 32::.sg [123]::.ws 10::(aZ (t+1) el++(fC t++[.sg [125]])))++(.ws 10::aZ t rest))):=by
   have bL:Atom.chain (.sg [125]::((.ws 32::kw [101,108,115,101]::.ws 32::.sg [123]::.ws 10::(aZ (t+1) el++(fC t++[.sg [125]])))++(.ws 10::aZ t rest))):=by
    refine cb i rfl (c9 rfl (cb (fF (by decide)) rfl (c9 rfl (cb k rfl (c9 rfl ?_)))));show Atom.chain ((aZ (t+1) el++(fC t++[Atom.sg [125]]))++(Atom.ws 10::aZ t rest))
    rw[Ly,Ly];exact e2.app ((gw t).app (cb i rfl ca))
   split
   .exact cb i rfl ca
   .exact bL
  unfold aZ
  exact(gw t).app (cb (fF (by decide)) rfl (c9 rfl (rO aw.chain rfl (c9 rfl (cb k rfl (c9 rfl (e1.app ((gw t).app tail))))))))
 | .gz e th rest,d+1,t,V,T,hV,h=>by
  have j:=cZ hG th d (t+1) _ _ hV h.2.1;have ao:=cZ hG rest (d+1) t _ _ hV h.2.2;have aw:=et hV 2 e h.1;have k:(Atom.sg [123]).fZ:=cm (.inl (by decide));have i:(Atom.sg [125]).fZ:=cm (.inl (by decide));have e1:hR (aZ (t+1) th):=⟨j,dQ th _⟩
  unfold aZ
  exact(gw t).app (cb (fF (by decide)) rfl (c9 rfl (rO aw.chain rfl (c9 rfl (cb k rfl (c9 rfl (e1.app ((gw t).app (cb i rfl (c9 rfl ao))))))))))
 | .ret rest,d,t,V,T,hV,h=>by
  have F:e6 G d V T rest:=by cases d<;>exact h
  have ao:=cZ hG rest d t _ _ hV F;have a:(Atom.sg [59]).fZ:=cm (.inl (by decide));unfold aZ;exact(gw t).app (iA (fF (by decide)) rfl (cb a rfl (c9 rfl ao)))
end Go.Proofs.YtkhnkojkplbioaaGreat
