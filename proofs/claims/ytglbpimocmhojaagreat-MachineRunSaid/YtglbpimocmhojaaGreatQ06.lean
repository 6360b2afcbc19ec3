/- Part 6 of the proof. No condition of its own. -/
import Derived.Test.YtglbpimocmhojaaGreatQ05
namespace Go.Proofs.YtglbpimocmhojaaGreat
open Go.RowKit Go.Proofs.Tryz
set_option maxRecDepth 1000000
set_option maxHeartbeats 25600000
set_option linter.unusedVariables false
variable{a:Atom}{m:List Atom}{l s:List UInt8}{b cap k n o:Nat}{c:UInt8}{w:World}
structure ft(w:World)(b o cap:Nat)(s:ByteArray):Prop where
 bytes:Lib.Bytes w b o s
 lt:b<w.heap.size
 fit:s.size<=cap
 small:s.size<=1000000
theorem ft.on{ab:World}{s:ByteArray}(h:ft w b o cap s)(O:Ext w ab):ft ab b o cap s:=
 ⟨λi an=>(O.cell h.lt (λh=>h)).trans (h.bytes i an),KE h.lt O.size,h.fit,h.small⟩
theorem gh(s:ByteArray)(j n:Nat):(s.extract j (j+n)).data.toList=(s.data.toList.drop j).take n:=by
 rw[Lib.extract_data,Nat.add_sub_cancel_left]
theorem wF(s:ByteArray):strOf s.data.toList=s:=by
 unfold strOf;cases s
 simp
theorem nF{s:ByteArray}(hc:s.size<=cap)(hn:0<n)(ap:k+n<=s.size)(W:World):
  (Instr.slice 127 (.slice (some ⟨b,o,none⟩) s.size cap) (some (.int .i64 (k:Int))) (some (.int .i64 ((k:Int)+(n:Int)))) none).run prog W=.ok (.slice (some ⟨b,o+k,none⟩) n (cap - k)) W:=by
 have:=Lib.run_slice_window (P:=prog) W 127 5 Tryz.underlying127 (λw=>by kernel_rfl) b o s.size cap k (k+n) ad ad;rw[show k+n - k=n by omega,Int.natCast_add] at this;exact this
theorem j5{s:ByteArray}(h:ft w b o cap s)(c:Nat)(ap:k+n<=s.size):
  (convert 127 9 (.slice (some ⟨b,o+k,none⟩) n c)).run prog w=.ok (.string (s.extract k (k+n))) w:=
 Lib.run_convert_window w _ _ _ Tryz.underlying127 Tryz.underlying5 Tryz.underlying9 b o s h.bytes k n c ap
theorem Eb(s:ByteArray)(b o cap k:Nat)(w:World)(h:ft w b o cap s)(ap:k<s.size) :
  Calls prog 131 #[.slice (some ⟨b,o,none⟩) s.size cap,.int .i64 k] w λe ab=>e=.returned (.int .i64 (eY (s.data.toList.drop k)))/\Ext w ab:=by
 have H:=ae h;have bZ:=h.small;have M:=h.fit;have s1:=λW=>nF (b:=b) (o:=o) h.fit (k:=k) (n:=1) ad ad W;have ca:∀W,Ext w W->∀(cs:Array Value) (t:TypeId),(convert 127 9 (.slice (some ⟨b,o+k,none⟩) 1 (cap - k))).run prog (W.alloc (.cells cs t))=.ok (.string (s.extract k (k+1))) (W.alloc (.cells cs t)):=λW ba cs t=>j5 (h.on (ba.alloc (.cells cs t))) (k:=k) (n:=1) (cap - k) ad;have U:=ae ca;clear ca;have b7:(0:Int)<=(k:Int):=ad;clear h;by_cases au:k+1<s.size
 .have s2:=λW=>nF (b:=b) (o:=o) M (k:=k) (n:=2) ad ad W;have c2:=λ(cs:Array Value) (t:TypeId)=>j5 (H.on (Ll.alloc (.cells cs t))) (k:=k) (n:=2) (cap - k) ad;simp only[Int.cast_ofNat_Int] at s1 s2;go_enter func131,ntmps131;go_wp2_with(fail);refine(oG _ 6 6 (fq.map strOf) _ _ (mK w _ _ _ rfl rfl) ad).mono ?_;rintro e ab ⟨rfl,rfl⟩;rw[mC,gh];have cg:decide (2<=(s.data.toList.drop k).length)=true:=by simp;omega
  by_cases hm:(s.data.toList.drop k).take 2∈fq
  .have aW:=ae (show eY (s.data.toList.drop k)=2 by unfold eY;rw[decide_eq_true hm,cg];rfl);rw[decide_eq_true hm];clear hm cg;exact uV
  .have aW:=ae (show eY (s.data.toList.drop k)=if decide ((s.data.toList.drop k).take 1∈eL) then 1 else 0 by unfold eY;rw[decide_eq_false hm];rfl);rw[decide_eq_false hm];clear hm cg c2 s2;generalize ba:World.alloc w _=W;have aw:=aX ba;have c1:=U.o W aw;clear ba;go_wp2_with(fail);refine(oG _ 17 17 (eL.map strOf) _ _ (mK W _ _ _ rfl rfl) ad).mono ?_;rintro e ab ⟨rfl,rfl⟩;rw[mC,gh];by_cases hm:(s.data.toList.drop k).take 1∈eL
   .rw[decide_eq_true hm] at aW ⊢;exact zD
   .rw[decide_eq_false hm] at aW ⊢;exact zD
 .have cg:decide (2<=(s.data.toList.drop k).length)=false:=by simp;omega
  have dd:decide ((k:Int)+1<(s.size:Int))=false:=by simp;omega
  have df:¬(k:Int)+1<(s.size:Int):=ad;have aW:=ae (show eY (s.data.toList.drop k)=if decide ((s.data.toList.drop k).take 1∈eL) then 1 else 0 by unfold eY;rw[cg,Bool.and_false];rfl);simp only[Int.cast_ofNat_Int] at s1;clear cg;go_enter func131,ntmps131;have c1:=U.o w Ll;go_wp2_with(fail);refine(oG _ 17 17 (eL.map strOf) _ _ (mK w _ _ _ rfl rfl) ad).mono ?_;rintro e ab ⟨rfl,rfl⟩;rw[mC,gh];by_cases hm:(s.data.toList.drop k).take 1∈eL
  .rw[decide_eq_true hm] at aW ⊢;clear hm;exact uV
  .rw[decide_eq_false hm] at aW ⊢;clear hm;exact uV
theorem ft.byte{s:ByteArray}(h:ft w b o cap s)(ap:k<s.size):w.cell? ⟨b,o+k,none⟩=some (.int .u8 (s[k].toNat:Int)):=h.bytes k ap
theorem c6{s:ByteArray}(h:k<s.size):s.data.toList.drop k=s[k]::s.data.toList.drop (k+1):=by
 rw[List.drop_eq_getElem_cons (by simpa using h)];rfl
theorem qH(c:UInt8):oT c=true↔c.toNat=32\/c.toNat=9\/c.toNat=10\/c.toNat=13:=by
 simp only[oT,Bool.or_eq_true,beq_iff_eq,<-UInt8.toNat_inj];show ((c.toNat=32\/c.toNat=9)\/c.toNat=10)\/c.toNat=13↔_
 omega
theorem oA(c:UInt8):c=47↔c.toNat=47:=by rw[<-UInt8.toNat_inj];rfl
theorem xo(c:UInt8):c=10↔c.toNat=10:=by rw[<-UInt8.toNat_inj];rfl
theorem k6(h:oT c=true):aT false (c::l)=aT false l:=by rw[aT,if_pos h]
theorem nA(h:oT c=false)(au:¬(c=47/\l.head?=some 47)):aT false (c::l)=c::l:=by rw[aT,if_neg (by simp[h]),if_neg au]
theorem xL(h:c≠10):aT true (c::l)=aT true l:=by rw[aT,if_neg h]
theorem Ed(h:c=47)(au:l.head?=some 47):aT false (c::l)=aT true (c::l):=by
 subst h;have a:aT false (47::l)=aT true l:=by rw[aT,if_neg (by decide),if_pos ⟨rfl,au⟩]
 exact a.trans (xL (by decide)).symm
theorem Ef:aT true (10::l)=aT false (10::l):=by
 have a:aT true (10::l)=aT false l:=by rw[aT,if_pos rfl]
 exact a.trans (k6 (by decide)).symm
theorem Ee(b:Bool):aT b []=[]:=by cases b<;>rfl
theorem kI(s:ByteArray)(b o cap k:Nat)(w:World)(h:ft w b o cap s)(ap:k<=s.size) :
  Calls prog 129 #[.slice (some ⟨b,o,none⟩) s.size cap,.int .i64 k] w λe ab=>e=.returned (.int .i64 ((s.size:Int) - (aT false (s.data.toList.drop k)).length))/\w=ab:=by
 have H:=ae h;have bZ:=h.small;clear h;go_enter func129,ntmps129;go_wp2
 go_loop [1] (λi=>∃j:Nat,j<=s.size/\i=.int .i64 j/\aT false (s.data.toList.drop k)=aT false (s.data.toList.drop j)) (λi=>s.size - (intOf i).toNat)
 case atStart=>exact⟨k,ap,rfl,rfl⟩
 case round=>
  obtain⟨j,bi,rfl,g⟩:=hrel;have t:=ae g;clear g;by_cases ak:j<s.size
  .have hc:=H.byte ak;have ax:(0:Int)<=(j:Int):=ad;have bp:(j:Int)<(s.size:Int):=ad;by_cases bg:s[j].toNat=32
   .have F:(((s[j].toNat:Nat):Int) == 32)=true:=by simp[bg]
    have ag:=ae (t.trans ((congrArg _ (c6 ak)).trans (k6 ((qH _).2 ad))));clear bg;go_wp2
    go_round
    case rel=>exact⟨j+1,ad,by go_num,ag.o⟩
    case measure=>exact aG
   by_cases bd:s[j].toNat=9
   .have cT:(((s[j].toNat:Nat):Int) == 9)=true:=by simp[bd]
    have q:(((s[j].toNat:Nat):Int) == 32)=false:=by simp;omega
    have ag:=ae (t.trans ((congrArg _ (c6 ak)).trans (k6 ((qH _).2 ad))));clear bd bg;go_wp2
    go_round
    case rel=>exact⟨j+1,ad,by go_num,ag.o⟩
    case measure=>exact aG
   by_cases c:s[j].toNat=10
   .have EB:(((s[j].toNat:Nat):Int) == 10)=true:=by simp[c]
    have q:(((s[j].toNat:Nat):Int) == 32)=false:=by simp;omega
    have A:(((s[j].toNat:Nat):Int) == 9)=false:=by simp;omega
    have ag:=ae (t.trans ((congrArg _ (c6 ak)).trans (k6 ((qH _).2 ad))));clear c bg bd;go_wp2
    go_round
    case rel=>exact⟨j+1,ad,by go_num,ag.o⟩
    case measure=>exact aG
   by_cases n:s[j].toNat=13
   .have E:(((s[j].toNat:Nat):Int) == 13)=true:=by simp[n]
    have q:(((s[j].toNat:Nat):Int) == 32)=false:=by simp;omega
    have A:(((s[j].toNat:Nat):Int) == 9)=false:=by simp;omega
    have x:(((s[j].toNat:Nat):Int) == 10)=false:=by simp;omega
    have ag:=ae (t.trans ((congrArg _ (c6 ak)).trans (k6 ((qH _).2 ad))));clear n bg bd c;go_wp2
    go_round
    case rel=>exact⟨j+1,ad,by go_num,ag.o⟩
    case measure=>exact aG
   have q:(((s[j].toNat:Nat):Int) == 32)=false:=by simp;omega
   have A:(((s[j].toNat:Nat):Int) == 9)=false:=by simp;omega
   have x:(((s[j].toNat:Nat):Int) == 10)=false:=by simp;omega
   have D:(((s[j].toNat:Nat):Int) == 13)=false:=by simp;omega
   have m0:oT s[j]=false:=by
    cases hw:oT s[j] with
    | false=>rfl
    | true=>have:=(qH _).1 hw;omega
   have aE:=ae m0;clear m0 bg bd c n;have d:∀l:List UInt8,l=s.data.toList.drop j->((s.size:Int) - l.length)=j:=λl hl=>by subst hl;simp;omega
   by_cases au:j+1<s.size
   .have ci:=H.byte au;have bF:((j+1:Nat):Int)=(j:Int)+1:=ad;have dA:decide ((j:Int)+1<(s.size:Int))=true:=by simp;omega
    by_cases a:s[j].toNat=47
    .have y:(((s[j].toNat:Nat):Int) == 47)=true:=by simp[a]
     by_cases f:s[j+1].toNat=47
     .have z:(((s[j+1].toNat:Nat):Int) == 47)=true:=by simp[f]
      have bQ:=ae (show aT false (s.data.toList.drop k)=aT true (s.data.toList.drop j) by
       rw[t.o,c6 ak];refine Ed ((oA _).2 a) ?_;rw[c6 au,List.head?_cons,(oA _).2 f])
      have b4:=ae (show s[j].toNat≠10 by omega);clear a f;go_wp2
      go_loop [1] (λi=>∃m:Nat,j<=m/\m<=s.size/\i=.int .i64 m/\aT false (s.data.toList.drop k)=aT true (s.data.toList.drop m)) (λi=>s.size - (intOf i).toNat)
      case atStart=>exact⟨j,KD _,bi,rfl,bQ.o⟩
      case round=>
       obtain⟨m,B,hm,rfl,P⟩:=hrel;have cQ:=ae P;clear P;by_cases ce:m<s.size
       .have v:=H.byte ce;have cr:(0:Int)<=(m:Int):=ad;have cy:(m:Int)<(s.size:Int):=ad;by_cases c:s[m].toNat=10
        .have EB:(((s[m].toNat:Nat):Int) != 10)=false:=by simp[c]
         have C:m≠j:=by
          rintro rfl;exact b4.o c
         have bq:=ae (show aT false (s.data.toList.drop k)=aT false (s.data.toList.drop m) by rw[cQ.o,c6 ce,(xo _).2 c];exact Ef);clear c;go_wp2
         go_round
         case rel=>exact⟨m,hm,rfl,bq.o⟩
         case measure=>exact aG
        .have EB:(((s[m].toNat:Nat):Int) != 10)=true:=by simp;omega
         have bq:=ae (show aT false (s.data.toList.drop k)=aT true (s.data.toList.drop (m+1)) by rw[cQ.o,c6 ce];exact xL (λh=>c ((xo _).1 h)));clear c;go_wp2
         go_round
         case rel=>exact⟨m+1,ad,ad,by go_num,bq.o⟩
         case measure=>exact aG
       .have u:m=s.size:=ad;have bq:=ae (show aT false (s.data.toList.drop k)=aT false (s.data.toList.drop m) by
         rw[cQ.o,u,Lh (by simp)];rfl)
        clear u;go_wp2
        go_round
        case rel=>exact⟨m,hm,rfl,bq.o⟩
        case measure=>exact aG
     .have z:(((s[j+1].toNat:Nat):Int) == 47)=false:=by simp;omega
      have aW:=ae (d _ (t.trans ((congrArg _ (c6 ak)).trans ((nA aE.o (by
       rintro⟨_,h⟩;rw[c6 au,List.head?_cons] at h;injection h with h;exact f ((oA _).1 h))).trans (c6 ak).symm))))
      clear a f d;go_wp2;go_ret;exact⟨ret_int aW.symm,rfl⟩
    .have y:(((s[j].toNat:Nat):Int) == 47)=false:=by simp;omega
     have aW:=ae (d _ (t.trans ((congrArg _ (c6 ak)).trans ((nA aE.o (λh=>a ((oA _).1 h.1))).trans (c6 ak).symm))));clear a d;go_wp2;go_ret;exact⟨ret_int aW.symm,rfl⟩
   .have dA:decide ((j:Int)+1<(s.size:Int))=false:=by simp;omega
    have aW:=ae (d _ (t.trans ((congrArg _ (c6 ak)).trans ((nA aE.o (by
     rintro⟨_,h⟩;rw[Lh (by simp;omega)] at h;cases h)).trans (c6 ak).symm))))
    clear au d;go_wp2;go_ret;exact⟨ret_int aW.symm,rfl⟩
  .have r:j=s.size:=ad;have aW:=ae (show (s.size:Int) - (aT false (s.data.toList.drop k)).length=s.size by rw[t.o,r,Lh (by simp)];simp[Ee]);subst r;go_wp2;go_ret;exact⟨ret_int aW.symm,rfl⟩
def jr(n:Nat):List UInt8:=if n<10 then [UInt8.ofNat (48+n)] else jr (n / 10)++[UInt8.ofNat (48+n % 10)]
 termination_by n
theorem mo(d:Nat)(h:d<10):(UInt8.ofNat (48+d)).toNat=48+d:=by simp;omega
theorem tw(n:Nat):(jr n).all bB=true/\∃c l,jr n=c::l:=by
 induction n using Nat.strongRecOn with
 | _ n ao=>
  rw[jr];split
  .rename_i h;refine⟨?_,_,_,rfl⟩;simp only[List.all_cons,List.all_nil,Bool.and_true,bB,mo n h,KP,Li];omega
  .obtain⟨ac,c,l,au⟩:=ao (n / 10) ad;refine⟨?_,c,l++[UInt8.ofNat (48+n % 10)],by rw[au];rfl⟩;simp only[List.all_append,ac,List.all_cons,List.all_nil,Bool.and_true,Bool.true_and,bB,mo (n % 10) ad,KP,Li];omega
theorem rE:∀(cn dn:List UInt8) (n:Int),0<=n->cn.all bB=true->iH n (cn++dn)=if iH n cn<0 then -1 else iH (iH n cn) dn
 | [],dn,n,hn,_=>by
  have h0:iH n []=n:=rfl
  rw[Le,h0,if_neg ad]
 | c::cn,dn,n,hn,h=>by
  simp only[List.all_cons,KP] at h;have hd:48<=c.toNat:=by have:=h.1;simp only[bB,KP,Li] at this;exact this.1
  simp only[KS,iH];split
  .simp
  .exact rE cn dn _ ad h.2
theorem ys(n:Nat)(h:n<=9223372036854775807):pZ (jr n)=n:=by
 unfold pZ
 induction n using Nat.strongRecOn with
 | _ n ao=>
  rw[jr];split
  .rename_i h;simp only[iH,mo n h];rw[if_neg ad];omega
  .have i:=ao (n / 10) ad ad;rw[rE _ _ _ ad (tw _).1,i,if_neg ad];simp only[iH,mo (n % 10) ad];rw[if_neg ad];omega
def Atom.last(a1:List Atom):Option Atom:=a1.getLast?
theorem ep:∀(a1 f:List Atom),Atom.chain a1->Atom.chain f->(∀a b,a1.getLast?=some a->f.head?=some b->a.fits b)->Atom.chain (a1++f)
 | [],f,_,O,_=>O
 | [a],[],bx,_,_=>bx
 | [a],b::f,bx,O,J=>⟨bx,J a b rfl rfl,O⟩
 | a::r::a1,f,bx,O,J=>by
  have ao:=ep (r::a1) f bx.2.2 O (λx y hx bb=>J x y (by rw[List.getLast?_cons_cons];exact hx) bb);exact⟨bx.1,bx.2.1,ao⟩
theorem count_append:∀(a1 f:List Atom),Atom.count (a1++f)=Atom.count a1+Atom.count f
 | [],f=>by simp[Atom.count]
 | a::a1,f=>by
  have ao:=count_append a1 f;cases a<;>simp only[KS,Atom.count,ao]<;>omega
def aU(a1:List Atom):List UInt8:=a1.flatMap Atom.bytes
theorem bf(a1 f:List Atom):aU (a1++f)=aU a1++aU f:=List.flatMap_append
theorem a5(a:Atom)(f:List Atom):aU (a::f)=a.bytes++aU f:=KX
theorem oU(c:UInt8)(b:Atom):(Atom.ws c).fits b:=⟨λh=>by simp[Atom.km] at h,λs h=>by cases h⟩
theorem oF(a:Atom)(c:UInt8)(h:oT c=true):a.fits (.ws c):=by
 refine⟨λ_=>rfl,λs _ _ d hd=>?_⟩;simp only[Atom.head,Lg] at hd;subst hd;have key:∀s∈eL,∀d:UInt8,(d=32\/d=9\/d=10\/d=13)->(s++[d])∉fq/\¬(s=[47]/\d=47):=by
  intro s hs d hd;rcases hd with rfl|rfl|rfl|rfl<;>revert s<;>decide
 refine key s (by assumption) c ?_;simp only[oT,Bool.or_eq_true,beq_iff_eq] at h;rcases h with((h|h)|h)|h<;>simp[h]
theorem xh(a b:Atom)(bx:a.km=true)(O:b.km=false):a.fits b:=⟨λ_=>O,λs h=>by subst h;simp[Atom.km] at bx⟩
def sZ(a:Atom):Prop:=a.km=true/\a.fW\/a=.sg [45]\/a=.sg [33]\/a=.sg [40]
def GB(a:Atom):Prop:=a.km=true\/a=.sg [41]\/a=.sg [93]
theorem E6(a:Atom)(h:a.km=true)(a2:a.fW)(c:UInt8)(hc:a.head=some c):cf c=true:=by
 cases a with
 | ws _=>simp[Atom.km] at h
 | sg _=>simp[Atom.km] at h
 | word s=>
  obtain⟨⟨d,l,rfl,ac,_⟩,_⟩:=a2;simp only[Atom.head,List.head?_cons,Lg] at hc;subst hc
  simp[cf,ac]
 | num s=>
  obtain⟨⟨d,l,rfl⟩,ac,_⟩:=a2;simp only[Atom.head,List.head?_cons,Lg] at hc;subst hc;simp only[List.all_cons,KP] at ac;simp[cf,ac.1]
theorem nz(s:List UInt8)(hs:s=[45]\/s=[33]\/s=[40]\/s=[91])(b:Atom)(O:sZ b):(Atom.sg s).fits b:=by
 refine⟨λh=>by simp[Atom.km] at h,λt ht _ c hc=>?_⟩;injection ht with ht;subst ht;have Z:cf c=true\/c=45\/c=33\/c=40:=by
  rcases O with⟨ac,au⟩|rfl|rfl|rfl
  .exact .inl (E6 b ac au c hc)
  all_goals simp[Atom.head] at hc;subst hc;simp
 have be:c≠61/\c≠38/\c≠124/\c≠47:=by
  rcases Z with h|rfl|rfl|rfl
  .refine⟨?_,?_,?_,?_⟩<;>(rintro rfl;revert h;decide)
  all_goals decide
 rcases hs with rfl|rfl|rfl|rfl<;>simp[fq,be]
theorem oD(a:Atom)(bx:GB a)(s:List UInt8)(hs:s=[41]\/s=[93]\/s=[59]\/s=[44]):a.fits (.sg s):=by
 rcases bx with h|rfl|rfl
 .exact xh _ _ h rfl
 all_goals
  refine⟨λh=>by simp[Atom.km] at h,λt ht _ c hc=>?_⟩;injection ht with ht;subst ht;rcases hs with rfl|rfl|rfl|rfl<;>(simp[Atom.head] at hc;subst hc;decide)
def a9:VE->Int
 | .num _=>1
 | .g1 _=>2
 | .loc _=>18
 | .iB _=>19
 | .un op _=>op
 | .bin op _ _=>op
def cW(op:Int):Int:=if op=17 then 0 else if op=16 then 1 else if 10<=op/\op<=15 then 2 else if op=8\/op=9 then 3 else if 5<=op/\op<=7 then 4 else if op=3\/op=4 then 5 else 6
def dC(op arg:Int)(second:Bool):Bool:=decide (cW arg<cW op) || (cW arg == cW op && second)
def gR(op:Int):List UInt8:=
 if op=5 then [42] else if op=6 then [47] else if op=7 then [37] else if op=8 then [43] else if op=9 then [45] else if op=10 then [60] else if op=11 then [60,61]
 else if op=12 then [62] else if op=13 then [62,61] else if op=14 then [61,61] else if op=15 then [33,61] else if op=16 then [38,38] else [124,124]
def par(b:Bool)(a1:List Atom):List Atom:=if b then .sg [40]::(a1++[.sg [41]]) else a1
def cn:VE->List Atom
 | .num n=>[.num (jr n.toNat)]
 | .g1 s=>[.word s.data.toList]
 | .loc _=>[]
 | .iB _=>[]
 | .un op x=>.sg (if op=3 then [45] else [33])::par (dC op (a9 x) false) (cn x)
 | .bin op x y=>par (dC op (a9 x) false) (cn x)++(.ws 32::.sg (gR op)::.ws 32::par (dC op (a9 y) true) (cn y))
def VE.src(N:Lq):Nat->VE->Prop
 | _,.num n=>0<=n/\n<4611686018427387904
 | _,.g1 s=>s∈N
 | _,.loc _=>False
 | _,.iB _=>False
 | 0,.un _ _=>False
 | 0,.bin _ _ _=>False
 | d+1,.un op x=>(op=3\/op=4)/\VE.src N d x
 | d+1,.bin op x y=>(5<=op/\op<=17)/\VE.src N d x/\VE.src N d y
def dI(N:Lq):Prop:=∀s∈N,bD s.data.toList=true
structure ld(a1:List Atom):Prop where
 chain:Atom.chain a1
 first:∃a,a1.head?=some a/\sZ a
 last:∃a,a1.getLast?=some a/\GB a
theorem getLast_append{a1 f:List Atom}(h:f.getLast?=some a):(a1++f).getLast?=some a:=by
 rw[List.getLast?_append,h];rfl
theorem head_append{a1 f:List Atom}(h:a1.head?=some a):(a1++f).head?=some a:=by
 rw[List.head?_append,h];rfl
theorem cP{a1:List Atom}(bx:a.fW)(h:Atom.chain a1)(J:∀b,a1.head?=some b->a.fits b):Atom.chain (a::a1):=
 ep [a] a1 bx h λx b hx O=>by
  simp at hx;subst hx;exact J b O
theorem ck(h:s∈eL\/s∈fq):(Atom.sg s).fW:=h.symm
theorem ld.par{a1:List Atom}(h:ld a1)(b:Bool):ld (par b a1):=by
 cases b
 .exact h
 .obtain⟨a,bx,hs⟩:=h.first;obtain⟨z,bt,he⟩:=h.last;refine⟨?_,⟨_,rfl,.inr (.inr (.inr rfl))⟩,⟨.sg [41],?_,.inr (.inl rfl)⟩⟩
  .refine cP (ck (.inl (by decide))) (ep _ _ h.chain (ck (.inl (by decide))) λx y hx bb=>?_) λy bb=>?_
   .rw[bt] at hx;injection hx with hx;subst hx;simp at bb;subst bb;exact oD _ he _ (.inl rfl)
   .rw[head_append bx] at bb;injection bb with bb;subst bb;exact nz _ (.inr (.inr (.inl rfl))) _ hs
  .show (Atom.sg [40]::(a1++[Atom.sg [41]])).getLast?=some (.sg [41])
   rw[<-List.cons_append];exact getLast_append rfl
theorem wz(op:Int):gR op∈eL\/gR op∈fq:=by
 unfold gR
 repeat' split
 all_goals first|exact .inl (by decide)|exact .inr (by decide)
theorem dF(h:bD s=true):(Atom.word s).fW:=by
 cases s with
 | nil=>simp[bD] at h
 | cons c l=>
  simp only[bD,KP,Li] at h;exact⟨⟨c,l,rfl,h.1.1.1,h.1.1.2⟩,.inr h.1.2⟩
theorem p2(h:n<=9223372036854775807):(Atom.num (jr n)).fW:=by
 obtain⟨ac,au⟩:=tw n;exact⟨au,ac,by rw[ys n h];omega⟩
theorem Er{a1:List Atom}(hs:s=[45]\/s=[33])(h:ld a1):ld (.sg s::a1):=by
 obtain⟨a,bx,cy⟩:=h.first;obtain⟨z,bt,he⟩:=h.last;refine⟨cP (ck (.inl (by rcases hs with rfl|rfl<;>decide))) h.chain λb O=>?_,⟨_,rfl,by rcases hs with rfl|rfl<;>simp[sZ]⟩,⟨z,?_,he⟩⟩
 .rw[bx] at O;injection O with O;subst O;exact nz _ (by rcases hs with rfl|rfl<;>simp) _ cy
 .show ([Atom.sg s]++a1).getLast?=some z
  exact getLast_append bt
theorem ek{N:Lq}(hN:dI N):∀(d:Nat) (x:VE),x.src N d->ld (cn x)
 | d,.num n,h=>by
  have F:0<=n/\n<4611686018427387904:=by cases d<;>exact h
  have a2:=p2 (n:=n.toNat) ad
  exact⟨a2,⟨_,rfl,.inl ⟨rfl,a2⟩⟩,⟨_,rfl,.inl rfl⟩⟩
 | d,.g1 s,h=>by
  have F:s∈N:=by cases d<;>exact h
  have a2:=dF (hN s F)
  exact⟨a2,⟨_,rfl,.inl ⟨rfl,a2⟩⟩,⟨_,rfl,.inl rfl⟩⟩
 | d,.loc _,h=>by cases d<;>exact h.elim
 | d,.iB _,h=>by cases d<;>exact h.elim
 | 0,.un _ _,h=>h.elim
 | 0,.bin _ _ _,h=>h.elim
 | d+1,.un op x,h=>by
  unfold cn
  exact Er (by split<;>simp) ((ek hN d x h.2).par (dC op (a9 x) false))
 | d+1,.bin op x y,h=>by
  have i:=(ek hN d x h.2.1).par (dC op (a9 x) false);have c:=(ek hN d y h.2.2).par (dC op (a9 y) true);unfold cn;generalize par (dC op (a9 x) false) (cn x)=a1 at *;generalize par (dC op (a9 y) true) (cn y)=f at *;obtain⟨a,bx,cy⟩:=i.first;obtain⟨z,bt,he⟩:=c.last;refine⟨ep _ _ i.chain ?_ ?_,⟨a,head_append bx,cy⟩,⟨z,getLast_append ?_,he⟩⟩
  .refine cP rfl (cP (ck (wz op)) (cP rfl c.chain λb _=>oU _ b) λb O=>?_) λb _=>oU _ b;simp at O;subst O;exact oF _ _ rfl
  .intro x y _ bb;simp at bb;subst bb;exact oF _ _ rfl
  .show ([Atom.ws 32,Atom.sg (gR op),Atom.ws 32]++f).getLast?=some z
   exact getLast_append bt
structure Env where
 af:List bG
 params:List (ByteArray×Bool)
 funcs:List (ByteArray×List (ByteArray×Bool))
def rT(G:Env)(V:Lq)(r:eO):Prop:=
 (∃m∈G.af,m.name=r.name/\(0<m.size->∃e,r.idx=some e/\e.src V 2)/\(¬0<m.size->r.idx=none))\/((r.name,true)∈G.params/\r.idx=none)
def IT(G:Env)(V:Lq)(p:ByteArray×Bool):dn->Prop
 | .mx r=>p.2=true/\rT G V r
 | .ex e=>p.2=false/\e.src V 2
def iM(G:Env)(V:Lq):List (ByteArray×Bool)->List dn->Prop
 | [],[]=>True
 | p::ps,a::a1=>IT G V p a/\iM G V ps a1
 | _,_=>False
def e4(G:Env):(d:Nat)->(V T:Lq)->an->Prop
 | _,_,_,.nil=>True
 | d,V,T,.set true n e rest=>bD n.data.toList=true/\n∉T/\e.src V 2/\e4 G d (V++[n]) (T++[n]) rest
 | d,V,T,.set false n e rest=>n∈V/\e.src V 2/\e4 G d V T rest
 | d,V,T,.call _ n a1 rest=>(∃ps,(n,ps)∈G.funcs/\iM G V ps a1)/\e4 G d V T rest
 | d,V,T,.lock _ r rest=>rT G V r/\e4 G d V T rest
 | 0,_,_,.ite ..=>False
 | 0,_,_,.gv ..=>False
 | d+1,V,T,.ite e th el rest=>e.src V 2/\e4 G d V T th/\e4 G d V T el/\e4 G (d+1) V T rest
 | d+1,V,T,.gv e th rest=>e.src V 2/\e4 G d V T th/\e4 G (d+1) V T rest
 | d,V,T,.ret rest=>e4 G d V T rest
def an.isNil:an->Bool
 | .nil=>true
 | _=>false
def an.num:an->Nat
 | .nil=>0
 | .set _ _ _ rest=>rest.num+1
 | .call _ _ _ rest=>rest.num+1
 | .lock _ _ rest=>rest.num+1
 | .ite _ th el rest=>th.num+el.num+rest.num+1
 | .gv _ th rest=>th.num+rest.num+1
 | .ret rest=>rest.num+1
def kw(s:List UInt8):Atom:=.word s
def iu(r:eO):List Atom:=.word r.name.data.toList::(match r.idx with|none=>[]|some e=>.sg [91]::(cn e++[.sg [93]]))
def fN:List UInt8:=[109,117,116,101,120]
def fD:dn->List Atom
 | .mx r=>kw fN::.ws 32::iu r
 | .ex e=>cn e
def dX:List (List Atom)->List Atom
 | []=>[]
 | [a]=>a
 | a::b::l=>a++(.sg [44]::.ws 32::dX (b::l))
def iT(a1:List dn):List Atom:=.sg [40]::(dX (a1.map fD)++[.sg [41]])
def fy(n:Nat):List Atom:=List.replicate n (.ws 9)
def aW:Nat->an->List Atom
 | _,.nil=>[]
 | t,.set v n e rest=>fy t++((if v then [kw [118,97,114],.ws 32] else [])++(.word n.data.toList::.ws 32::.sg [61]::.ws 32::(cn e++(.sg [59]::.ws 10::aW t rest))))
 | t,.call g n a1 rest=>fy t++((if g then [kw [103,111],.ws 32] else [])++(.word n.data.toList::(iT a1++(.sg [59]::.ws 10::aW t rest))))
 | t,.lock u r rest=>fy t++(kw (if u then [117,110,108,111,99,107] else [108,111,99,107])::.ws 32::(iu r++(.sg [59]::.ws 10::aW t rest)))
 | t,.ite e th el rest=>fy t++(kw [105,102]::.ws 32::(cn e++(.ws 32::.sg [123]::.ws 10::(aW (t+1) th++(fy t++(.sg [125] ::
   ((if el.isNil then [] else .ws 32::kw [101,108,115,101]::.ws 32::.sg [123]::.ws 10::(aW (t+1) el++(fy t++[.sg [125]])))++(.ws 10::aW t rest))))))))
 | t,.gv e th rest=>fy t++(kw [119,104,105,108,101]::.ws 32::(cn e++(.ws 32::.sg [123]::.ws 10::(aW (t+1) th++(fy t++(.sg [125]::.ws 10::aW t rest))))))
 | t,.ret rest=>fy t++(kw [114,101,116,117,114,110]::.sg [59]::.ws 10::aW t rest)
theorem fC(h:s∈te):(kw s).fW:=by
 have key:∀s∈te,(match s with|[]=>false|c::l=>bX c && l.all cf)=true:=by decide
 have:=key s h
 cases s with
 | nil=>cases this
 | cons c l=>
  simp only[KP] at this;exact⟨⟨c,l,rfl,this.1,this.2⟩,.inl (by simpa[dE] using h)⟩
section
variable {a1 f:List Atom}
theorem c5(hc:oT c=true)(h:Atom.chain a1):Atom.chain (.ws c::a1):=cP hc h λb _=>oU c b
theorem cb(bx:a.fW)(hc:oT c=true)(h:Atom.chain (.ws c::a1)):Atom.chain (a::.ws c::a1):=
 cP bx h λb O=>by
  simp at O;subst O;exact oF _ _ hc
theorem iv(bx:a.fW)(hl:a.km=true)(h:Atom.chain (.sg s::a1)):Atom.chain (a::.sg s::a1):=
 cP bx h λb O=>by
  simp at O;subst O;exact xh _ _ hl rfl
theorem e6(ac:ld a1)(hs:s=[41]\/s=[93]\/s=[59]\/s=[44])(h:Atom.chain (.sg s::f)):Atom.chain (a1++.sg s::f):=
 ep _ _ ac.chain h λa b bx O=>by
  obtain⟨z,bt,he⟩:=ac.last;rw[bt] at bx;injection bx with bx;subst bx;simp at O;subst O;exact oD _ he _ hs
theorem rf(ac:Atom.chain a1)(hc:oT c=true)(h:Atom.chain (.ws c::f)):Atom.chain (a1++.ws c::f):=
 ep _ _ ac h λa b _ O=>by
  simp at O;subst O;exact oF _ _ hc
theorem oB(hs:s=[40]\/s=[91])(ac:ld a1)(h:Atom.chain (a1++f)):Atom.chain (.sg s::(a1++f)):=
 cP (ck (.inl (by rcases hs with rfl|rfl<;>decide))) h λb O=>by
  obtain⟨a,bx,cy⟩:=ac.first;rw[head_append bx] at O;injection O with O;subst O;exact nz _ (by rcases hs with rfl|rfl<;>simp) _ cy
def hE(a1:List Atom):Prop:=Atom.chain a1/\∀a,a1.getLast?=some a->∃c,a=.ws c
theorem hE.app(h:hE a1)(O:Atom.chain f):Atom.chain (a1++f):=
 ep _ _ h.1 O λa b bx _=>by
  obtain⟨c,rfl⟩:=h.2 a bx;exact oU _ _
theorem gr(n:Nat):hE (fy n):=by
 induction n with
 | zero=>exact⟨trivial,λa h=>by simp[fy] at h⟩
 | succ n ao=>
  refine⟨c5 rfl ao.1,λa h=>?_⟩;simp only[fy,List.getLast?_replicate] at h;simp at h;exact⟨9,h.symm⟩
theorem tO{l:List Atom}(h:∀a,m.getLast?=some a->∃c,a=.ws c)(hm:m≠[])(bx:(l++m).getLast?=some a):∃c,a=.ws c:=by
 rw[List.getLast?_append] at bx
 cases hl:m.getLast? with
 | none=>exact absurd (List.getLast?_eq_none_iff.1 hl) hm
 | some b=>
  rw[hl] at bx;simp at bx;subst bx;exact h _ hl
end
theorem pt{G:Env}{V:Lq}(hV:dI V)(hM:∀m∈G.af,bD m.name.data.toList=true)(aZ:∀p∈G.params,bD p.1.data.toList=true)(r:eO)(h:rT G V r):ld (iu r):=by
 have hn:(Atom.word r.name.data.toList).fW:=by
  rcases h with⟨m,hm,he,_⟩|⟨hp,_⟩
  .rw[<-he];exact dF (hM m hm)
  .exact dF (aZ _ hp)
 unfold iu
 cases an:r.idx with
 | none=>exact⟨hn,⟨_,rfl,.inl ⟨rfl,hn⟩⟩,⟨_,rfl,.inl rfl⟩⟩
 | some e=>
  have hs:e.src V 2:=by
   exact Gn
  have ao:=ek hV 2 e hs;refine⟨iv hn rfl (oB (.inr rfl) ao (e6 ao (.inr (.inl rfl)) (ck (.inl (by decide))))),⟨_,rfl,.inl ⟨rfl,hn⟩⟩,⟨.sg [93],?_,.inr (.inr rfl)⟩⟩;show ((Atom.word r.name.data.toList::.sg [91]::cn e)++[Atom.sg [93]]).getLast?=_
  exact getLast_append rfl
theorem np:∀(l:List (List Atom)),(∀a∈l,ld a)->l≠[]->ld (dX l)
 | [],_,h=>absurd rfl h
 | [a],h,_=>h a (by simp)
 | a::b::l,h,_=>by
  have ao:=np (b::l) (λx hx=>h x (by simp[hx])) (by simp);have bx:=h a (by simp);obtain⟨x,hx,hs⟩:=bx.first;obtain⟨z,bt,he⟩:=ao.last;refine⟨e6 bx (.inr (.inr (.inr rfl))) (cb (ck (.inl (by decide))) rfl (c5 rfl ao.chain)),⟨x,head_append hx,hs⟩,⟨z,?_,he⟩⟩;show (a++([Atom.sg [44],Atom.ws 32]++dX (b::l))).getLast?=some z
  exact getLast_append (getLast_append bt)
section
variable {G:Env} {V:Lq} (hV:dI V) (hM:∀m∈G.af,bD m.name.data.toList=true) (aZ:∀p∈G.params,bD p.1.data.toList=true)
include hV hM aZ
theorem vv(p:ByteArray×Bool)(a:dn)(h:IT G V p a):ld (fD a):=by
 cases a with
 | ex e=>exact ek hV 2 e h.2
 | mx r=>
  have ao:=pt hV hM aZ r h.2;have ap:(kw fN).fW:=fC (by decide);obtain⟨z,bt,he⟩:=ao.last;refine⟨cb ap rfl (c5 rfl ao.chain),⟨_,rfl,.inl ⟨rfl,ap⟩⟩,⟨z,?_,he⟩⟩;show ([kw fN,Atom.ws 32]++iu r).getLast?=some z
  exact getLast_append bt
theorem uN:∀(ps:List (ByteArray×Bool)) (a1:List dn),iM G V ps a1->(∀a∈a1.map fD,ld a)/\a1.length=ps.length
 | [],[],_=>⟨λa h=>by simp at h,rfl⟩
 | p::ps,a::a1,h=>by
  obtain⟨ac,au⟩:=uN ps a1 h.2;refine⟨λx hx=>?_,by simp[au]⟩;simp only[KJ,KT] at hx;rcases hx with rfl|hx
  .exact vv hV hM aZ p a h.1
  .exact ac x hx
 | [],_::_,h=>h.elim
 | _::_,[],h=>h.elim
theorem qO(ps:List (ByteArray×Bool))(a1:List dn)(h:iM G V ps a1){f:List Atom}(O:Atom.chain (.sg [59]::f)):Atom.chain (iT a1++.sg [59]::f):=by
 have d:Atom.chain (.sg [41]::.sg [59]::f):=cP (ck (.inl (by decide))) O λb O=>by
  simp at O;subst O;exact oD _ (.inr (.inl rfl)) _ (.inr (.inr (.inl rfl)))
 obtain⟨ac,_⟩:=uN hV hM aZ ps a1 h
 cases a1 with
 | nil=>
  refine cP (ck (.inl (by decide))) d λb O=>?_
  exact Gv
 | cons a l=>
  have ao:=np ((a::l).map fD) ac (by simp);show Atom.chain (Atom.sg [40]::((dX ((a::l).map fD)++[Atom.sg [41]])++Atom.sg [59]::f))
  rw[KR];exact oB (.inl rfl) ao (e6 ao (.inl rfl) d)
end
def lg(l:List Atom):Prop:=l≠[]/\∀a,l.getLast?=some a->∃c,a=.ws c
theorem lg.cons{x:Atom}{l:List Atom}(h:lg l):lg (x::l):=
 ⟨by simp,λa bx=>tO (l:=[x]) h.2 h.1 (by simpa using bx)⟩
theorem lg.app{l:List Atom}(h:lg m):lg (l++m):=
 ⟨by have:=h.1;simp[this],λa bx=>tO h.2 h.1 bx⟩
theorem lg.nl{l:List Atom}(h:∀a,l.getLast?=some a->∃c,a=.ws c):lg (.ws 10::l):=by
 refine⟨by simp,λa bx=>?_⟩
 cases l with
 | nil=>simp at bx;exact⟨10,bx.symm⟩
 | cons x l=>exact h a (by rw[List.getLast?_cons_cons] at bx;exact bx)
theorem dM:∀(b:an) (t:Nat) (a:Atom),(aW t b).getLast?=some a->∃c,a=.ws c
 | .nil,t,a,h=>by simp[aW] at h
 | .set v n e rest,t,a,h=>by
  unfold aW at h
  exact(lg.app (.app (.cons (.cons (.cons (.cons (.app (.cons (.nl (dM rest t)))))))))).2 a h
 | .call g n a1 rest,t,a,h=>by
  unfold aW at h
  exact(lg.app (.app (.cons (.app (.cons (.nl (dM rest t))))))).2 a h
 | .lock u r rest,t,a,h=>by
  unfold aW at h
  exact(lg.app (.cons (.cons (.app (.cons (.nl (dM rest t))))))).2 a h
 | .ite e th el rest,t,a,h=>by
  unfold aW at h
  exact(lg.app (.cons (.cons (.app (.cons (.cons (.cons (.app (.app (.cons (.app (.nl (dM rest t))))))))))))).2 a h
 | .gv e th rest,t,a,h=>by
  unfold aW at h
  exact(lg.app (.cons (.cons (.app (.cons (.cons (.cons (.app (.app (.cons (.nl (dM rest t)))))))))))).2 a h
 | .ret rest,t,a,h=>by
  unfold aW at h;exact(lg.app (.cons (.cons (.nl (dM rest t))))).2 a h
structure nJ(G:Env):Prop where
 af:∀m∈G.af,bD m.name.data.toList=true
 params:∀p∈G.params,bD p.1.data.toList=true
 funcs:∀f∈G.funcs,bD f.1.data.toList=true/\f.2.length<=2
theorem jZ{V:Lq}{n:ByteArray}(h:dI V)(hn:bD n.data.toList=true):dI (V++[n]):=by
 intro s hs;simp only[KM,Lf] at hs;rcases hs with hs|rfl
 .exact h s hs
 .exact hn
theorem cX{G:Env}(hG:nJ G):∀(b:an) (d t:Nat) (V T:Lq),dI V->e4 G d V T b->Atom.chain (aW t b)
 | .nil,d,t,V,T,_,_=>trivial
 | .set v n e rest,d,t,V,T,hV,h=>by
  have a:(Atom.sg [59]).fW:=ck (.inl (by decide));have f:(Atom.sg [61]).fW:=ck (.inl (by decide));unfold aW
  cases v with
  | true=>
   have F:bD n.data.toList=true/\n∉T/\e.src V 2/\e4 G d (V++[n]) (T++[n]) rest:=by cases d<;>exact h
   have ao:=cX hG rest d t _ _ (jZ hV F.1) F.2.2.2;have aw:=ek hV 2 e F.2.2.1
   exact(gr t).app (cb (fC (by decide)) rfl (c5 rfl (cb (dF F.1) rfl (c5 rfl (cb f rfl (c5 rfl (e6 aw (.inr (.inr (.inl rfl))) (cb a rfl (c5 rfl ao)))))))))
  | false=>
   have F:n∈V/\e.src V 2/\e4 G d V T rest:=by cases d<;>exact h
   have ao:=cX hG rest d t _ _ hV F.2.2;have aw:=ek hV 2 e F.2.1
   exact(gr t).app (cb (dF (hV n F.1)) rfl (c5 rfl (cb f rfl (c5 rfl (e6 aw (.inr (.inr (.inl rfl))) (cb a rfl (c5 rfl ao)))))))
 | .call g n a1 rest,d,t,V,T,hV,h=>by
  have F:(∃ps,(n,ps)∈G.funcs/\iM G V ps a1)/\e4 G d V T rest:=by cases d<;>exact h
  obtain⟨⟨ps,J,has⟩,a5⟩:=F;have ao:=cX hG rest d t _ _ hV a5;have a:(Atom.sg [59]).fW:=ck (.inl (by decide));have bw:=qO hV hG.af hG.params ps a1 has (cb a rfl (c5 (c:=10) rfl ao));have ba:Atom.chain (.word n.data.toList::(iT a1++(.sg [59]::.ws 10::aW t rest))):=iv (dF (hG.funcs _ J).1) rfl bw;unfold aW
  cases g with
  | true=>exact(gr t).app (cb (fC (by decide)) rfl (c5 rfl ba))
  | false=>exact(gr t).app ba
 | .lock u r rest,d,t,V,T,hV,h=>by
  have F:rT G V r/\e4 G d V T rest:=by cases d<;>exact h
  have ao:=cX hG rest d t _ _ hV F.2;have cA:=pt hV hG.af hG.params r F.1;have a:(Atom.sg [59]).fW:=ck (.inl (by decide));unfold aW
  exact(gr t).app (cb (fC (by cases u<;>decide)) rfl (c5 rfl (e6 cA (.inr (.inr (.inl rfl))) (cb a rfl (c5 rfl ao)))))
 | .ite e th el rest,0,t,V,T,hV,h=>h.elim
 | .gv e th rest,0,t,V,T,hV,h=>h.elim
 | .ite e th el rest,d+1,t,V,T,hV,h=>by
  have j:=cX hG th d (t+1) _ _ hV h.2.1;have o:=cX hG el d (t+1) _ _ hV h.2.2.1;have ao:=cX hG rest (d+1) t _ _ hV h.2.2.2;have aw:=ek hV 2 e h.1;have k:(Atom.sg [123]).fW:=ck (.inl (by decide));have i:(Atom.sg [125]).fW:=ck (.inl (by decide));have e1:hE (aW (t+1) th):=⟨j,dM th _⟩
  have e2:hE (aW (t+1) el):=⟨o,dM el _⟩
  have bH:Atom.chain (.ws 10::aW t rest):=c5 rfl ao;have tail:Atom.chain (.sg [125]::((if el.isNil then [] else .ws 32::kw [101,108,115,101]::.ws 32::.sg [123]::.ws 10::(aW (t+1) el++(fy t++[.sg [125]])))++(.ws 10::aW t rest))):=by
   have b9:Atom.chain (.sg [125]::((.ws 32::kw [101,108,115,101]::.ws 32::.sg [123]::.ws 10::(aW (t+1) el++(fy t++[.sg [125]])))++(.ws 10::aW t rest))):=by
    refine cb i rfl (c5 rfl (cb (fC (by decide)) rfl (c5 rfl (cb k rfl (c5 rfl ?_)))));show Atom.chain ((aW (t+1) el++(fy t++[Atom.sg [125]]))++(Atom.ws 10::aW t rest))
    rw[KR,KR];exact e2.app ((gr t).app (cb i rfl bH))
   split
   .exact cb i rfl bH
   .exact b9
  unfold aW
  exact(gr t).app (cb (fC (by decide)) rfl (c5 rfl (rf aw.chain rfl (c5 rfl (cb k rfl (c5 rfl (e1.app ((gr t).app tail))))))))
 | .gv e th rest,d+1,t,V,T,hV,h=>by
  have j:=cX hG th d (t+1) _ _ hV h.2.1;have ao:=cX hG rest (d+1) t _ _ hV h.2.2;have aw:=ek hV 2 e h.1;have k:(Atom.sg [123]).fW:=ck (.inl (by decide));have i:(Atom.sg [125]).fW:=ck (.inl (by decide));have e1:hE (aW (t+1) th):=⟨j,dM th _⟩
  unfold aW
  exact(gr t).app (cb (fC (by decide)) rfl (c5 rfl (rf aw.chain rfl (c5 rfl (cb k rfl (c5 rfl (e1.app ((gr t).app (cb i rfl (c5 rfl ao))))))))))
 | .ret rest,d,t,V,T,hV,h=>by
  have F:e4 G d V T rest:=by cases d<;>exact h
  have ao:=cX hG rest d t _ _ hV F;have a:(Atom.sg [59]).fW:=ck (.inl (by decide));unfold aW;exact(gr t).app (iv (fC (by decide)) rfl (cb a rfl (c5 rfl ao)))
end Go.Proofs.YtglbpimocmhojaaGreat
