/- Part 5 of the proof. No condition of its own. -/
import Derived.Test.YtnigabjngpnbiaaGreatQ03
import Derived.Test.YtnigabjngpnbiaaGreatQ04
namespace Go.Proofs.YtnigabjngpnbiaaGreat
open Go.RowKit Go.Proofs.Tryz
set_option maxRecDepth 1000000
set_option maxHeartbeats 25600000
set_option linter.unusedVariables false
variable{s:ByteArray}{d:Int}{acc:List Tok}{l:List UInt8}{b cap f k n o:Nat}{c:UInt8}{p:UInt8->Bool}{J w:World}
structure eG(w:World)(b o cap:Nat)(s:ByteArray):Prop where
 bytes:Lib.Bytes w b o s
 lt:b<w.heap.size
 fit:s.size<=cap
 small:s.size<=1000000
theorem eG.on(h:eG w b o cap s)(O:Ext w J):eG J b o cap s:=
 ⟨λi I=>(O.cell h.lt (λh=>h)).trans (h.bytes i I),JJ h.lt O.size,h.fit,h.small⟩
theorem fE(s:ByteArray)(j n:Nat):(s.extract j (j+n)).data.toList=(s.data.toList.drop j).take n:=by
 rw[Lib.extract_data,Nat.add_sub_cancel_left]
theorem vf(s:ByteArray):strOf s.data.toList=s:=by
 unfold strOf;cases s
 simp
theorem mF(hc:s.size<=cap)(hn:0<n)(aj:k+n<=s.size)(W:World):
  (Instr.slice 64 (.slice (some ⟨b,o,none⟩) s.size cap) (some (.int .i64 (k:Int))) (some (.int .i64 ((k:Int)+(n:Int)))) none).run prog W=.ok (.slice (some ⟨b,o+k,none⟩) n (cap - k)) W:=by
 have:=Lib.run_slice_window (P:=prog) W 64 5 Tryz.underlying64 (λw=>by kernel_rfl) b o s.size cap k (k+n) ad ad;rw[show k+n - k=n by omega,Int.natCast_add] at this;exact this
theorem jy(h:eG w b o cap s)(c:Nat)(aj:k+n<=s.size):
  (convert 64 9 (.slice (some ⟨b,o+k,none⟩) n c)).run prog w=.ok (.string (s.extract k (k+n))) w:=
 Lib.run_convert_window w _ _ _ Tryz.underlying64 Tryz.underlying5 Tryz.underlying9 b o s h.bytes k n c aj
theorem Dz(s:ByteArray)(b o cap k:Nat)(w:World)(h:eG w b o cap s)(aj:k<s.size) :
  Calls prog 102 #[.slice (some ⟨b,o,none⟩) s.size cap,.int .i64 k] w λe J=>e=.returned (.int .i64 (ey (s.data.toList.drop k)))/\Ext w J:=by
 have H:=ae h;have bH:=h.small;have M:=h.fit;have s1:=λW=>mF (b:=b) (o:=o) h.fit (k:=k) (n:=1) ad ad W;have bX:∀W,Ext w W->∀(cs:Array Value) (t:TypeId),(convert 64 9 (.slice (some ⟨b,o+k,none⟩) 1 (cap - k))).run prog (W.alloc (.cells cs t))=.ok (.string (s.extract k (k+1))) (W.alloc (.cells cs t)):=λW ba cs t=>jy (h.on (ba.alloc (.cells cs t))) (k:=k) (n:=1) (cap - k) ad;have z:=ae bX;clear bX;have ay:(0:Int)<=(k:Int):=ad;clear h;by_cases ap:k+1<s.size
 .have s2:=λW=>mF (b:=b) (o:=o) M (k:=k) (n:=2) ad ad W;have c2:=λ(cs:Array Value) (t:TypeId)=>jy (H.on (Kf.alloc (.cells cs t))) (k:=k) (n:=2) (cap - k) ad;simp only[Int.cast_ofNat_Int] at s1 s2;go_enter func102,ntmps102;go_wp2_with(fail);refine(nu _ 6 6 (eO.map strOf) _ _ (lS w _ _ _ rfl rfl) ad).mono ?_;rintro e J ⟨rfl,rfl⟩;rw[lK,fE];have bZ:decide (2<=(s.data.toList.drop k).length)=true:=by simp;omega
  by_cases hm:(s.data.toList.drop k).take 2∈eO
  .have a2:=ae (show ey (s.data.toList.drop k)=2 by unfold ey;rw[decide_eq_true hm,bZ];rfl);rw[decide_eq_true hm];clear hm bZ;exact tp
  .have a2:=ae (show ey (s.data.toList.drop k)=if decide ((s.data.toList.drop k).take 1∈ef) then 1 else 0 by unfold ey;rw[decide_eq_false hm];rfl);rw[decide_eq_false hm];clear hm bZ c2 s2;generalize ba:World.alloc w _=W;have ar:=aY ba;have c1:=z.o W ar;clear ba;go_wp2_with(fail);refine(nu _ 17 17 (ef.map strOf) _ _ (lS W _ _ _ rfl rfl) ad).mono ?_;rintro e J ⟨rfl,rfl⟩;rw[lK,fE];by_cases hm:(s.data.toList.drop k).take 1∈ef
   .rw[decide_eq_true hm] at a2 ⊢;exact yy
   .rw[decide_eq_false hm] at a2 ⊢;exact yy
 .have bZ:decide (2<=(s.data.toList.drop k).length)=false:=by simp;omega
  have c7:decide ((k:Int)+1<(s.size:Int))=false:=by simp;omega
  have c8:¬(k:Int)+1<(s.size:Int):=ad;have a2:=ae (show ey (s.data.toList.drop k)=if decide ((s.data.toList.drop k).take 1∈ef) then 1 else 0 by unfold ey;rw[bZ,Bool.and_false];rfl);simp only[Int.cast_ofNat_Int] at s1;clear bZ;go_enter func102,ntmps102;have c1:=z.o w Kf;go_wp2_with(fail);refine(nu _ 17 17 (ef.map strOf) _ _ (lS w _ _ _ rfl rfl) ad).mono ?_;rintro e J ⟨rfl,rfl⟩;rw[lK,fE];by_cases hm:(s.data.toList.drop k).take 1∈ef
  .rw[decide_eq_true hm] at a2 ⊢;clear hm;exact tp
  .rw[decide_eq_false hm] at a2 ⊢;clear hm;exact tp
theorem eG.byte(h:eG w b o cap s)(aj:k<s.size):w.cell? ⟨b,o+k,none⟩=some (.int .u8 (s[k].toNat:Int)):=h.bytes k aj
theorem cP(h:k<s.size):s.data.toList.drop k=s[k]::s.data.toList.drop (k+1):=by
 rw[List.drop_eq_getElem_cons (by simpa using h)];rfl
theorem py(c:UInt8):nF c=true↔c.toNat=32\/c.toNat=9\/c.toNat=10\/c.toNat=13:=by
 simp only[nF,Bool.or_eq_true,beq_iff_eq,<-UInt8.toNat_inj];show ((c.toNat=32\/c.toNat=9)\/c.toNat=10)\/c.toNat=13↔_
 omega
theorem nn(c:UInt8):c=47↔c.toNat=47:=by rw[<-UInt8.toNat_inj];rfl
theorem vW(c:UInt8):c=10↔c.toNat=10:=by rw[<-UInt8.toNat_inj];rfl
theorem kz(h:nF c=true):aK false (c::l)=aK false l:=by rw[aK,if_pos h]
theorem mA(h:nF c=false)(ap:¬(c=47/\l.head?=some 47)):aK false (c::l)=c::l:=by rw[aK,if_neg (by simp[h]),if_neg ap]
theorem wB(h:c≠10):aK true (c::l)=aK true l:=by rw[aK,if_neg h]
theorem DC(h:c=47)(ap:l.head?=some 47):aK false (c::l)=aK true (c::l):=by
 subst h;have a:aK false (47::l)=aK true l:=by rw[aK,if_neg (by decide),if_pos ⟨rfl,ap⟩]
 exact a.trans (wB (by decide)).symm
theorem DE:aK true (10::l)=aK false (10::l):=by
 have a:aK true (10::l)=aK false l:=by rw[aK,if_pos rfl]
 exact a.trans (kz (by decide)).symm
theorem DD(b:Bool):aK b []=[]:=by cases b<;>rfl
theorem j9(s:ByteArray)(b o cap k:Nat)(w:World)(h:eG w b o cap s)(aj:k<=s.size) :
  Calls prog 97 #[.slice (some ⟨b,o,none⟩) s.size cap,.int .i64 k] w λe J=>e=.returned (.int .i64 ((s.size:Int) - (aK false (s.data.toList.drop k)).length))/\w=J:=by
 have H:=ae h;have bH:=h.small;clear h;go_enter func97,ntmps97;go_wp2
 go_loop [1] (λi=>∃j:Nat,j<=s.size/\i=.int .i64 j/\aK false (s.data.toList.drop k)=aK false (s.data.toList.drop j)) (λi=>s.size - (intOf i).toNat)
 case atStart=>exact⟨k,aj,rfl,rfl⟩
 case round=>
  obtain⟨j,be,rfl,q⟩:=hrel;have N:=ae q;clear q;by_cases aq:j<s.size
  .have hc:=H.byte aq;have a3:(0:Int)<=(j:Int):=ad;have db:(j:Int)<(s.size:Int):=ad;by_cases bv:s[j].toNat=32
   .have F:(((s[j].toNat:Nat):Int) == 32)=true:=by simp[bv]
    have ab:=ae (N.trans ((congrArg _ (cP aq)).trans (kz ((py _).2 ad))));clear bv;go_wp2
    go_round
    case rel=>exact⟨j+1,ad,by go_num,ab.o⟩
    case measure=>exact aU
   by_cases aE:s[j].toNat=9
   .have bX:(((s[j].toNat:Nat):Int) == 9)=true:=by simp[aE]
    have n:(((s[j].toNat:Nat):Int) == 32)=false:=by simp;omega
    have ab:=ae (N.trans ((congrArg _ (cP aq)).trans (kz ((py _).2 ad))));clear aE bv;go_wp2
    go_round
    case rel=>exact⟨j+1,ad,by go_num,ab.o⟩
    case measure=>exact aU
   by_cases c:s[j].toNat=10
   .have DT:(((s[j].toNat:Nat):Int) == 10)=true:=by simp[c]
    have n:(((s[j].toNat:Nat):Int) == 32)=false:=by simp;omega
    have A:(((s[j].toNat:Nat):Int) == 9)=false:=by simp;omega
    have ab:=ae (N.trans ((congrArg _ (cP aq)).trans (kz ((py _).2 ad))));clear c bv aE;go_wp2
    go_round
    case rel=>exact⟨j+1,ad,by go_num,ab.o⟩
    case measure=>exact aU
   by_cases g:s[j].toNat=13
   .have E:(((s[j].toNat:Nat):Int) == 13)=true:=by simp[g]
    have n:(((s[j].toNat:Nat):Int) == 32)=false:=by simp;omega
    have A:(((s[j].toNat:Nat):Int) == 9)=false:=by simp;omega
    have x:(((s[j].toNat:Nat):Int) == 10)=false:=by simp;omega
    have ab:=ae (N.trans ((congrArg _ (cP aq)).trans (kz ((py _).2 ad))));clear g bv aE c;go_wp2
    go_round
    case rel=>exact⟨j+1,ad,by go_num,ab.o⟩
    case measure=>exact aU
   have n:(((s[j].toNat:Nat):Int) == 32)=false:=by simp;omega
   have A:(((s[j].toNat:Nat):Int) == 9)=false:=by simp;omega
   have x:(((s[j].toNat:Nat):Int) == 10)=false:=by simp;omega
   have D:(((s[j].toNat:Nat):Int) == 13)=false:=by simp;omega
   have l4:nF s[j]=false:=by
    cases hw:nF s[j] with
    | false=>rfl
    | true=>have:=(py _).1 hw;omega
   have aN:=ae l4;clear l4 bv aE c g;have d:∀l:List UInt8,l=s.data.toList.drop j->((s.size:Int) - l.length)=j:=λl hl=>by subst hl;simp;omega
   by_cases ap:j+1<s.size
   .have ck:=H.byte ap;have bt:((j+1:Nat):Int)=(j:Int)+1:=ad;have dH:decide ((j:Int)+1<(s.size:Int))=true:=by simp;omega
    by_cases a:s[j].toNat=47
    .have y:(((s[j].toNat:Nat):Int) == 47)=true:=by simp[a]
     by_cases f:s[j+1].toNat=47
     .have z:(((s[j+1].toNat:Nat):Int) == 47)=true:=by simp[f]
      have bK:=ae (show aK false (s.data.toList.drop k)=aK true (s.data.toList.drop j) by
       rw[N.o,cP aq];refine DC ((nn _).2 a) ?_;rw[cP ap,List.head?_cons,(nn _).2 f])
      have bN:=ae (show s[j].toNat≠10 by omega);clear a f;go_wp2
      go_loop [1] (λi=>∃m:Nat,j<=m/\m<=s.size/\i=.int .i64 m/\aK false (s.data.toList.drop k)=aK true (s.data.toList.drop m)) (λi=>s.size - (intOf i).toNat)
      case atStart=>exact⟨j,JI _,be,rfl,bK.o⟩
      case round=>
       obtain⟨m,B,hm,rfl,u⟩:=hrel;have cF:=ae u;clear u;by_cases bS:m<s.size
       .have v:=H.byte bS;have cD:(0:Int)<=(m:Int):=ad;have b5:(m:Int)<(s.size:Int):=ad;by_cases c:s[m].toNat=10
        .have DT:(((s[m].toNat:Nat):Int) != 10)=false:=by simp[c]
         have C:m≠j:=by
          rintro rfl;exact bN.o c
         have bd:=ae (show aK false (s.data.toList.drop k)=aK false (s.data.toList.drop m) by rw[cF.o,cP bS,(vW _).2 c];exact DE);clear c;go_wp2
         go_round
         case rel=>exact⟨m,hm,rfl,bd.o⟩
         case measure=>exact aU
        .have DT:(((s[m].toNat:Nat):Int) != 10)=true:=by simp;omega
         have bd:=ae (show aK false (s.data.toList.drop k)=aK true (s.data.toList.drop (m+1)) by rw[cF.o,cP bS];exact wB (λh=>c ((vW _).1 h)));clear c;go_wp2
         go_round
         case rel=>exact⟨m+1,ad,ad,by go_num,bd.o⟩
         case measure=>exact aU
       .have t:m=s.size:=ad;have bd:=ae (show aK false (s.data.toList.drop k)=aK false (s.data.toList.drop m) by
         rw[cF.o,t,Kb (by simp)];rfl)
        clear t;go_wp2
        go_round
        case rel=>exact⟨m,hm,rfl,bd.o⟩
        case measure=>exact aU
     .have z:(((s[j+1].toNat:Nat):Int) == 47)=false:=by simp;omega
      have a2:=ae (d _ (N.trans ((congrArg _ (cP aq)).trans ((mA aN.o (by
       rintro⟨_,h⟩;rw[cP ap,List.head?_cons] at h;injection h with h;exact f ((nn _).1 h))).trans (cP aq).symm))))
      clear a f d;go_wp2;go_ret;exact⟨ret_int a2.symm,rfl⟩
    .have y:(((s[j].toNat:Nat):Int) == 47)=false:=by simp;omega
     have a2:=ae (d _ (N.trans ((congrArg _ (cP aq)).trans ((mA aN.o (λh=>a ((nn _).1 h.1))).trans (cP aq).symm))));clear a d;go_wp2;go_ret;exact⟨ret_int a2.symm,rfl⟩
   .have dH:decide ((j:Int)+1<(s.size:Int))=false:=by simp;omega
    have a2:=ae (d _ (N.trans ((congrArg _ (cP aq)).trans ((mA aN.o (by
     rintro⟨_,h⟩;rw[Kb (by simp;omega)] at h;cases h)).trans (cP aq).symm))))
    clear ap d;go_wp2;go_ret;exact⟨ret_int a2.symm,rfl⟩
  .have r:j=s.size:=ad;have a2:=ae (show (s.size:Int) - (aK false (s.data.toList.drop k)).length=s.size by rw[N.o,r,Kb (by simp)];simp[DD]);subst r;go_wp2;go_ret;exact⟨ret_int a2.symm,rfl⟩
theorem sC{x:UInt8}(h:(x.toNat:Int)=d+48)(v:Int)(l:List UInt8):h2 v (x::l)=if (9223372036854775807 - d) / 10<v then -1 else h2 (10*v+d) l:=by
 simp only[h2];rw[h,show d+48 - 48=d by omega]
theorem xn{v:Int}(h:v<=(9223372036854775807 - d) / 10)(hd:0<=d/\d<=9)(bD:0<=v):0<=10*v+d/\10*v+d<=9223372036854775807:=ad
theorem uD(s:ByteArray)(b o cap k n c:Nat)(w:World)(h:eG w b o cap s)(aj:k+n<=s.size)(hd:((s.data.toList.drop k).take n).all bq=true) :
  Calls prog 101 #[.slice (some ⟨b,o+k,none⟩) n c] w λe J=>e=.returned (.int .i64 (nc ((s.data.toList.drop k).take n)))/\w=J:=by
 have H:=ae h;have bH:=h.small;have M:=ae hd;clear h hd;go_enter func101,ntmps101;go_wp2
 go_loop [3,4] (λa i=>∃(j:Nat) (v:Int),j<=n/\0<=v/\v<=9223372036854775807/\a=.int .i64 v/\i=.int .i64 j/\h2 v (((s.data.toList.drop k).take n).drop j)=nc ((s.data.toList.drop k).take n)) (λ_ i=>n - (intOf i).toNat)
 case atStart=>exact⟨0,0,J4 _,ad,ad,rfl,rfl,rfl⟩
 case round=>
  obtain⟨j,v,be,t,Q,rfl,rfl,q⟩:=hrel;have N:=ae q;clear q;by_cases aq:j<n
  .have hc:=H.byte (k:=k+j) ad;rw[<-Nat.add_assoc] at hc;have g:((s.data.toList.drop k).take n)[j]?=some s[k+j]:=by
    rw[List.getElem?_take_of_lt aq,List.getElem?_drop];exact byte_at ad
   have m:bq s[k+j]=true:=List.all_eq_true.1 M.o _ (JL g);have r:48<=s[k+j].toNat/\s[k+j].toNat<=57:=by simpa[bq] using m
   have bk:((s.data.toList.drop k).take n).drop j=s[k+j]::((s.data.toList.drop k).take n).drop (j+1):=by
    have hl:=(List.getElem?_eq_some_iff.1 g)
    rw[List.drop_eq_getElem_cons hl.1,hl.2]
   have aJ:=ae (N.symm.trans (congrArg (h2 v) bk));clear g m bk;generalize s[k+j]=x at *;obtain⟨d,l⟩:∃d:Int,(x.toNat:Int)=d+48:=⟨(x.toNat:Int) - 48,ad⟩
   rw[l] at hc;have S:=ae l;have d0:0<=d:=ad;have d1:d<=9:=ad;clear l r;by_cases f:(9223372036854775807 - d) / 10<v
   .have a2:=ae (aJ.trans ((sC S.o v _).trans (if_pos f)));go_wp2;go_ret;exact⟨ret_int a2.symm,rfl⟩
   .have a2:=ae (aJ.trans ((sC S.o v _).trans (if_neg f)));have bL:=ae (xn ad ⟨d0,d1⟩ t);go_wp2
    go_round
    case rel=>exact⟨j+1,10*v+d,ad,bL.1,bL.2,rfl,by go_num,a2.symm⟩
    case measure=>exact aU
  .have K:j=n:=ad;have a2:=ae (show v=nc ((s.data.toList.drop k).take n) by
    rw[<-N.o,K,Kb (by simp;omega)];rfl)
   clear K;go_wp2;go_ret;exact⟨ret_int a2.o,rfl⟩
def pF(t:Tok):List Value:=[.int .i64 t.kind,.string (strOf t.text),.int .i64 t.num,.int .i64 t.pos]
theorem C7(l:List Tok):∀x∈l,(pF x).length=4:=λ_ _=>rfl
theorem kJ(l:List Tok)(x:Tok):(l++[x]).flatMap pF=l.flatMap pF++pF x:=by
 rw[List.flatMap_append];simp
theorem nU:cA prog 105 127 (.agg #[.int .i64 0,.string ⟨#[]⟩,.int .i64 0,.int .i64 0]) 4 40:=cA.mk' Tryz.underlying105 (by kernel_rfl) rfl ad
theorem eG.EB(h:eG w b o cap s)(O:Below w.heap.size w J):eG J b o cap s:=h.on (Fr.of O)
def jU(w:World)(r:List Tok×Int×Int)(e:Ending)(J:World):Prop:=
 ∃A n c,e=.returned (.tuple #[.slice A n c,.int .i64 r.2.1,.int .i64 r.2.2])/\n<=c/\cB (EF pF) 4 J J.heap.size A n r.1/\Below w.heap.size w J
theorem jU.bad{p q:Int}{r:List Tok×Int×Int}(aZ:r=([],p,q))(O:Below w.heap.size w J):jU w r (.returned (.tuple #[.slice none 0 0,.int .i64 p,.int .i64 q])) J:=by
 subst aZ;exact⟨none,0,0,rfl,JI _,cB.c7 _,O⟩
structure rY(w wr:World)(s:ByteArray)(k:Nat)(acc:List Tok)(out:Value):Prop where
 own:wr.ownsRow w.heap.size 127 4 out acc.length (acc.flatMap pF)
 iN:acc.length<=4000
 le:k<=s.size
 skip:aK false (s.data.toList.drop k)=s.data.toList.drop k
 Ej:eU (s.size - k+1) s.size (s.data.toList.drop k) acc=cd s.data.toList
 below:Below w.heap.size w wr
theorem lC(s:ByteArray)(k:Nat):(s.data.toList.drop k).length=s.size - k:=by simp
theorem gF:∀(b:Bool) (l:List UInt8),∃n,aK b l=l.drop n/\n<=l.length
 | b,[]=>⟨0,by cases b<;>rfl,JI _⟩
 | true,c::l=>by
  by_cases h:c=10
  .obtain⟨n,ac,ap⟩:=gF false l;exact⟨n+1,by rw[aK,if_pos h,ac];rfl,by simp;omega⟩
  .obtain⟨n,ac,ap⟩:=gF true l
   exact⟨n+1,by rw[aK,if_neg h,ac];rfl,by simp;omega⟩
 | false,c::l=>by
  by_cases h:nF c=true
  .obtain⟨n,ac,ap⟩:=gF false l;exact⟨n+1,by rw[aK,if_pos h,ac];rfl,by simp;omega⟩
  .by_cases ap:c=47/\l.head?=some 47
   .obtain⟨n,ac,aD⟩:=gF true l;exact⟨n+1,by rw[aK,if_neg h,if_pos ap,ac];rfl,by simp;omega⟩
   .exact⟨0,by rw[aK,if_neg h,if_neg ap];rfl,by simp⟩
theorem ho:∀(b:Bool) (l:List UInt8),aK false (aK b l)=aK b l
 | b,[]=>by cases b<;>rfl
 | true,c::l=>by
  rw[aK];split
  .exact ho false l
  .exact ho true l
 | false,c::l=>by
  by_cases h:nF c=true
  .rw[kz h];exact ho false l
  .by_cases ap:c=47/\l.head?=some 47
   .have e:aK false (c::l)=aK true l:=by rw[aK,if_neg h,if_pos ap]
    rw[e];exact ho true l
   .have e:aK false (c::l)=c::l:=by rw[aK,if_neg h,if_neg ap]
    rw[e,e]
theorem lY(s:ByteArray)(m:Nat)(hm:m<=s.size):∃k,m<=k/\k<=s.size/\aK false (s.data.toList.drop m)=s.data.toList.drop k/\aK false (s.data.toList.drop k)=s.data.toList.drop k/\(s.size:Int) - (aK false (s.data.toList.drop m)).length=k:=by
 obtain⟨n,ac,ap⟩:=gF false (s.data.toList.drop m);have hl:(s.data.toList.drop m).length=s.size - m:=by simp
 refine⟨m+n,ad,ad,?_,?_,?_⟩
 .rw[ac,List.drop_drop]
 .rw[<-List.drop_drop,<-ac];exact ho _ _
 .rw[ac,List.length_drop,hl];omega
theorem qj(f n:Nat)(l:List UInt8)(acc:List Tok):eU f n l acc=eU f n (aK false l) acc:=by
 cases f with
 | zero=>rfl
 | succ f=>unfold eU;rw[ho]
theorem kp:∀(f g n:Nat) (l:List UInt8) (acc:List Tok),l.length<f->l.length<g->eU f n l acc=eU g n l acc
 | 0,g,n,l,acc,h,_=>ad
 | f+1,0,n,l,acc,_,h=>ad
 | f+1,g+1,n,l,acc,aA,aS=>by
  unfold eU;have hs:=iY false l
  cases aj:aK false l with
  | nil=>rfl
  | cons c r=>
   rw[aj] at hs;simp only[JV] at hs;have e1:∀p:UInt8->Bool,p c=true->((c::r).dropWhile p).length<f/\((c::r).dropWhile p).length<g:=λp hp=>by
    have:((c::r).dropWhile p).length<=r.length:=by
     rw[List.dropWhile_cons,if_pos hp];have:=(List.dropWhile_sublist p (l:=r)).length_le;exact this
    omega
   have e2:∀k,k≠0->((c::r).drop k).length<f/\((c::r).drop k).length<g:=λk aj=>by
    simp only[List.length_drop,JV];omega
   simp only[];by_cases hl:bQ c=true
   .simp only[hl,if_true];have G:cb c=true:=by simp[cb,hl]
    rw[kp f g n _ _ (e1 _ G).1 (e1 _ G).2]
   .simp only[hl,Kd,if_false];by_cases hd:bq c=true
    .simp only[hd,if_true];rw[kp f g n _ _ (e1 _ hd).1 (e1 _ hd).2]
    .simp only[hd,Kd,if_false];by_cases bi:ey (c::r)=0
     .simp only[bi,if_true]
     .simp only[bi,if_false];rw[kp f g n _ _ (e2 _ bi).1 (e2 _ bi).2]
theorem rY.next{wr b:World}{m u:Nat}{out a:Value}{t:Tok}(h:rY w wr s k acc out)
  (aE:b.ownsRow w.heap.size 127 4 a (acc.length+1) (acc.flatMap pF++pF t)) (hn:acc.length≠4000) (Q:k<m) (hm:m<=s.size)
  (he:eU (s.size - k+1) s.size (s.data.toList.drop k) acc=eU (s.size - k) s.size (s.data.toList.drop m) (acc++[t])) (O:Below w.heap.size w b)
  (bI:m<=u) (b4:u<=s.size) (ct:aK false (s.data.toList.drop m)=s.data.toList.drop u) (bz:aK false (s.data.toList.drop u)=s.data.toList.drop u):rY w b s u (acc++[t]) a:=by
 have aA:=h.iN;refine⟨by rw[kJ,JK];exact aE,by simp;omega,b4,bz,?_,O⟩;rw[<-h.Ej,he,qj (s.size - k),ct];exact yx
theorem ur(s:ByteArray)(hs:s.size<=262144)(ac:aK false (s.data.toList.drop 0)=s.data.toList.drop k):eU (s.size - k+1) s.size (s.data.toList.drop k) []=cd s.data.toList:=by
 have hl:s.data.toList.length=s.size:=by simp
 have g:aK false s.data.toList=s.data.toList.drop k:=by simpa using ac
 unfold cd;rw[hl,if_neg ad,qj (s.size+1),g];exact yx
theorem C8(f n:Nat)(acc:List Tok):eU (f+1) n [] acc=(acc++[⟨5,[],0,(n:Int)⟩],(n:Int),0):=by simp[eU,aK]
theorem sZ:s.data.toList.drop k=(s.data.toList.drop k).take n++s.data.toList.drop (k+n):=by
 rw[<-List.drop_drop,List.take_append_drop]
theorem qn(h:∀hl:k+n<s.size,p (s[k+n]'hl)=false):∀c,(s.data.toList.drop (k+n)).head?=some c->p c=false:=by
 intro c hc;by_cases hl:k+n<s.size
 .rw[cP hl] at hc;simp at hc;subst hc;exact h hl
 .rw[Kb (by simp;omega)] at hc;cases hc
theorem rr(h:k<s.size):((s.size:Nat):Int) - ((s.data.toList.drop (k+1)).length+1)=(k:Int):=by rw[lC];omega
theorem xg(aj:k<s.size)(g:aK false (s.data.toList.drop k)=s.data.toList.drop k)(hl:bQ s[k]=true)(aP:((s.data.toList.drop k).take n).all cb=true)
  (d:∀h:k+n<s.size,cb (s[k+n]'h)=false) :
  eU (f+1) s.size (s.data.toList.drop k) acc=if (!c9 ((s.data.toList.drop k).take n) && decide (16<((s.data.toList.drop k).take n).length))=true then ([],(k:Int),3)
   else if acc.length=4000 then ([],(k:Int),3) else eU f s.size (s.data.toList.drop (k+n)) (acc++[⟨if c9 ((s.data.toList.drop k).take n) then 3 else 1,(s.data.toList.drop k).take n,0,(k:Int)⟩]):=by
 have e:=gw aP (qn d);rw[<-sZ] at e;rw[eU,g];rw[cP aj] at e ⊢;simp only[hl,if_true,e.1,e.2,rr aj]
theorem C9(aj:k<s.size)(g:aK false (s.data.toList.drop k)=s.data.toList.drop k)(hl:bQ s[k]=false)(hd:bq s[k]=true)(aP:((s.data.toList.drop k).take n).all bq=true)
  (d:∀h:k+n<s.size,bq (s[k+n]'h)=false) :
  eU (f+1) s.size (s.data.toList.drop k) acc=if nc ((s.data.toList.drop k).take n)<0 then ([],(k:Int),2)
   else if acc.length=4000 then ([],(k:Int),3) else eU f s.size (s.data.toList.drop (k+n)) (acc++[⟨2,(s.data.toList.drop k).take n,nc ((s.data.toList.drop k).take n),(k:Int)⟩]):=by
 have e:=gw aP (qn d);rw[<-sZ] at e;rw[eU,g];rw[cP aj] at e ⊢;simp only[hl,hd,Kd,if_false,if_true,e.1,e.2,rr aj]
theorem xf(aj:k<s.size)(g:aK false (s.data.toList.drop k)=s.data.toList.drop k)(hl:bQ s[k]=false)(hd:bq s[k]=false):
  eU (f+1) s.size (s.data.toList.drop k) acc=if ey (s.data.toList.drop k)=0 then ([],(k:Int),1)
   else if acc.length=4000 then ([],(k:Int),3) else eU f s.size (s.data.toList.drop (k+ey (s.data.toList.drop k))) (acc++[⟨4,(s.data.toList.drop k).take (ey (s.data.toList.drop k)),0,(k:Int)⟩]):=by
 have ap:s.data.toList.drop (k+ey (s.data.toList.drop k))=(s.data.toList.drop k).drop (ey (s.data.toList.drop k)):=by rw[List.drop_drop]
 rw[ap,eU,g];rw[cP aj];simp only[hl,hd,Kd,if_false,rr aj]
theorem Dy(l:List UInt8)(h:l≠[]):ey l<=l.length:=by
 unfold ey
 have:1<=l.length:=by cases l with
  | nil=>exact absurd rfl h
  | cons=>simp
 split
 .rename_i an;simp only[JU,Kc] at an;exact an.2
 .split<;>omega
theorem nS(hl:k+n<s.size)(h:((s.data.toList.drop k).take n).all p=true)(hp:p (s[k+n]'hl)=true):((s.data.toList.drop k).take (n+1)).all p=true:=by
 have aS:(s.data.toList.drop k)[n]?=some (s[k+n]'hl):=by rw[List.getElem?_drop];exact byte_at hl
 rw[aX aS,List.all_append,h];simp[hp]
theorem gm(hc:s.size<=cap)(hn:0<n)(aj:k+n<=s.size)(W:World):
  (Instr.slice 64 (.slice (some ⟨b,o,none⟩) s.size cap) (some (.int .i64 (k:Int))) (some (.int .i64 ((k:Int)+(n:Int)))) none).run prog W=.ok (.slice (some ⟨b,o+k,none⟩) n (cap - k)) W:=mF hc hn aj W
theorem pN(s:ByteArray)(k n:Nat):strOf ((s.data.toList.drop k).take n)=s.extract k (k+n):=by rw[<-fE,vf]
structure r2(wr X:World)(kind num:Int)(k:Nat):Prop where
 below:Below wr.heap.size wr X
 blk:au X wr.heap.size 127 #[.int .i64 kind,.string ⟨#[]⟩,.int .i64 num,.int .i64 k]
 lt:wr.heap.size<X.heap.size
theorem we(s:ByteArray)(b o cap:Nat)(w:World)(h:eG w b o cap s)(hs:s.size<=262144) :
  Calls prog 46 #[.slice (some ⟨b,o,none⟩) s.size cap] w (jU w (cd s.data.toList)):=by
 have H:=ae h;have M:=h.fit;clear h;go_enter func46,ntmps46;go_wp2_with(fail);refine(show Calls prog 97 #[.slice (some ⟨b,o,none⟩) s.size cap,.int .i64 0] _ _ from j9 s b o cap 0 _ H.o (J4 _)).mono ?_;rintro e J ⟨rfl,rfl⟩;obtain⟨cX,_,F,ac,ap,aD⟩:=lY s 0 (J4 _);rw[aD];have a5:=ae (show rY w w s cX [] (.slice none 0 0) from ⟨⟨by simp,.inl ⟨rfl,rfl⟩⟩,by simp,F,ap,ur s hs ac,Below.refl _ _⟩);clear ac ap aD;go_wp2_with(fail);go_loopw [5,6] (λout i wr=>∃(k:Nat) (acc:List Tok),i=.int .i64 k/\rY w wr s k acc out) (λ_ i _=>s.size+1 - (intOf i).toNat)
 case atStart=>exact⟨cX,[],rfl,a5.o⟩
 case round=>
  obtain⟨k,acc,rfl,bP⟩:=hrel;have bW:=ae bP;clear a5 F;obtain⟨A,c,aC,cA,_,_,_⟩:=cj bP.own;subst aC;have L:=bP.iN;have hle:=bP.le;clear bP;by_cases aq:k<s.size
  case neg=>
   have aB:k=s.size:=ad;have q:((k:Int) == (s.size:Int))=true:=by simp;omega
   have a2:=ae (show cd s.data.toList=(acc++[⟨5,[],0,(s.size:Int)⟩],(s.size:Int),0) by
    rw[<-bW.Ej,aB,Kb (by simp)];exact C8 _ _ _)
   subst aB;go_wp2_with((at_builtin;refine eA wr nU rfl (.tmp 21) (.tmp 24) rfl w.heap.size _ _ _ #[.int .i64 5,.string ⟨#[]⟩,.int .i64 0,.int .i64 s.size] rfl bW.own rfl rfl (by simp[Value.oneCell']) ad ad bW.below.size ?_;intro v2 aV ax bb E;obtain⟨bg,c2,rfl,P,_⟩:=cj ax))
   go_ret3
   rw[a2.o];refine⟨bg,acc.length+1,c2,rfl,P,iV (l:=acc++[⟨5,[],0,(s.size:Int)⟩]) (by rw[kJ];exact ax) (C7 _) (by simp),?_⟩;exact hf bW.below bW.own bb (JI _) bW.below.size
  have q:((k:Int) == (s.size:Int))=false:=by simp;omega
  have hc:=H.EB bW.below;have aH:=hc.byte aq;have aJ:=hc.lt;have S:∀(j:Nat) (be:j<s.size) (cs:Array Value) (t:TypeId),(wr.alloc (.cells cs t)).cell? ⟨b,o+j,none⟩=some (.int .u8 (s[j].toNat:Int)):=λj be cs t=>(hc.on (Kf.alloc _)).byte be;obtain⟨bK,aw⟩:=aI hc S;have cD:=S k aq #[.int .i64 0,.string ⟨#[]⟩,.int .i64 0,.int .i64 k] 127;clear hc S;go_wp2_with(fail);refine(k1 s[k] _).mono ?_;rintro e J ⟨rfl,rfl⟩;by_cases hl:bQ s[k]=true
  .rw[hl];have aA:=ae hl;clear hl cD;go_wp2_with(fail)
   go_loop [8] (λe=>∃n:Nat,k+n<=s.size/\e=.int .i64 ((k:Int)+(n:Int))/\((s.data.toList.drop k).take n).all cb=true) (λe=>s.size+1 - (intOf e).toNat)
   case atStart=>exact⟨0,ad,by simp,by simp⟩
   case round=>
    obtain⟨n,hn,rfl,aP⟩:=hrel;have HA:=ae aP;clear aP;have t1:((k:Int)+(n:Int)).toNat=k+n:=ad;have a3:(0:Int)<=(k:Int)+(n:Int):=ad;by_cases bj:k+n<s.size
    case' pos=>
     have b5:=aw.o (k+n) bj #[.int .i64 0,.string ⟨#[]⟩,.int .i64 0,.int .i64 k] 127;have db:(k:Int)+(n:Int)<(s.size:Int):=ad;go_wp2_with(fail);refine(k1 s[k+n] _).mono ?_;rintro e J ⟨rfl,rfl⟩;by_cases bZ:bQ s[k+n]=true
     .rw[bZ];have cf:=ae (nS (p:=cb) bj HA.o (by simp[cb,bZ]));clear bZ;go_wp2
      go_round
      case rel=>exact⟨n+1,ad,by simp;omega,cf.o⟩
      case measure=>exact aU
     have al:bQ s[k+n]=false:=by simpa using bZ
     rw[al];have Q:=ae al;clear bZ al;go_wp2_with(fail);refine(kh s[k+n] _).mono ?_;rintro e J ⟨rfl,rfl⟩;by_cases r:bq s[k+n]=true
     .rw[r];have cf:=ae (nS (p:=cb) bj HA.o (by simp[cb,r]));clear r;go_wp2
      go_round
      case rel=>exact⟨n+1,ad,by simp;omega,cf.o⟩
      case measure=>exact aU
     have C:bq s[k+n]=false:=by simpa using r
     rw[C];have G:cb s[k+n]=false:=by simp[cb,Q.o,C]
     have aj:=ae (show 0<n from by
      rcases Nat.eq_zero_or_pos n with h0|h0
      .subst h0;have:=Q.o;simp only[JS] at this;rw[aA.o] at this;cases this
      .exact h0)
     have O:=ae (show ∀h:k+n<s.size,cb (s[k+n]'h)=false from λ_=>G);clear r C G b5
    case' neg=>
     have db:decide ((k:Int)+(n:Int)<(s.size:Int))=false:=by simp;omega
     have aj:=ae (show 0<n by omega);have O:=ae (show ∀h:k+n<s.size,cb (s[k+n]'h)=false from λh=>absurd h bj)
    all_goals
     have ai:0<n:=aj.o;have K:=ae (bW.Ej.symm.trans (xg (f:=s.size - k) (acc:=acc) aq bW.skip aA.o HA.o O.o));have s2:=λW=>gm (b:=b) (o:=o) M ai hn W;have c2:=λ(cs:Array Value) (t:TypeId)=>jy (bK.on (Kf.alloc (.cells cs t))) (k:=k) (n:=n) (cap - k) hn;go_wp2_with(fail);refine(lX (s.extract k (k+n)) _).mono ?_;rintro e aV ⟨rfl,bv⟩;clear s2 c2;have y:r2 wr aV 1 0 k:=by
      have e1:Ext wr aV:=(Kf.alloc _).trans bv;have av:=(au.new wr 127 #[.int .i64 1,.string ⟨#[]⟩,.int .i64 0,.int .i64 k]).aj bv;exact⟨Fr.ext e1,av,av.lt⟩
     clear bv;have N:=ae y;obtain⟨Z,an,ao⟩:=y.blk.two;clear y;have aF:hk (s.extract k (k+n))=c9 ((s.data.toList.drop k).take n):=by unfold hk;rw[fE]
     rw[aF];clear aF;have hlen:((s.data.toList.drop k).take n).length=n:=by simp;omega
     by_cases aZ:c9 ((s.data.toList.drop k).take n)=true
     .rw[aZ] at K ⊢;have bd:=ae (K.o);clear aZ hlen K;simp only[Bool.not_true,Bool.false_and,Kd,if_false,if_true] at bd;go_upto_region 28 with(fail);generalize hX:World.setCell aV _ _=X;have d:r2 wr X 3 0 k:=by
       exact x7
      clear hX Z an ao;have b1:=ae d;obtain⟨bl,U,aE⟩:=d.blk.two;clear d;by_cases bt:acc.length=4000
      .have c8:((acc.length:Int) == 4000)=true:=by simp;omega
       have V:(acc.length == 4000)=true:=by simp;omega
       have a2:=ae (bd.trans (if_pos bt));clear bt;go_wp2
       go_ret3
       exact qL
      have c8:((acc.length:Int) == 4000)=false:=by simp;omega
      have V:(acc.length == 4000)=false:=by simp;omega
      have a2:=ae (bd.trans (if_neg bt));have R:=ae bt;clear bt;have I:eG X b o cap s:=bK.EB b1.below;have bs:=λW=>gm (b:=b) (o:=o) M ai hn W;have c3:=jy I (k:=k) (n:=n) (cap - k) hn;have ar:=ae I;clear I;go_upto_region 31 with(fail);generalize cm:World.setCell X _ _=Y;have z:Below wr.heap.size wr Y:=cm▸b1.below.setCell (p:=⟨wr.heap.size,1,none⟩) (JI _) _;have ag:au Y wr.heap.size 127 #[.int .i64 3,.string (s.extract k (k+n)),.int .i64 0,.int .i64 k]:=cm▸b1.blk.bH 1 _;obtain⟨bA,ab,af⟩:=ag.two;have x:=ae z;clear cm z ag bl U aE bs c3;go_wp2_with((at_builtin;refine eA Y nU rfl (.tmp 119) (.tmp 121) rfl w.heap.size _ _ _ #[.int .i64 3,.string (s.extract k (k+n)),.int .i64 0,.int .i64 k] rfl (bT bW.own x.o) rfl rfl (by simp[Value.oneCell']) ad ad (JZ bW.below.size x.size) ?_;intro v2 cy ax bb E;obtain⟨bg,c2,rfl,P,_⟩:=cj ax));have aa:Below w.heap.size w cy:=hf (bW.below.trans (x.mono bW.below.size)) (bT bW.own x.o) bb (JI _) (JZ bW.below.size x.size);have ah:=ak aa ax;clear aa ax bb E bA ab af;have g:=j9 s b o cap (k+n) cy (H.EB ah.1) hn;rw[Int.natCast_add] at g;refine g.mono ?_;clear g;rintro e J ⟨rfl,rfl⟩;obtain⟨u,bI,b4,ct,bz,cu⟩:=lY s (k+n) hn;rw[cu];have bF:=ak ct bz;clear ct bz cu;go_wp2;go_roundw
      case rel=>
       refine⟨u,acc++[⟨3,(s.data.toList.drop k).take n,0,(k:Int)⟩],rfl,bW.next (m:=k+n) ?_ R.o ad hn (bW.Ej.trans a2.o) ah.1 bI b4 bF.1 bF.2⟩;exact qP
      case measure=>exact aU
     have T:c9 ((s.data.toList.drop k).take n)=false:=by simpa using aZ
     rw[T] at K ⊢;by_cases am:16<n
     .have bd:=ae (K.trans (if_pos (by rw[hlen];simp[am])));clear aZ T hlen;go_wp2
      go_ret3
      exact jU.bad bd.o (bW.below.trans (N.below.mono bW.below.size))
     have bd:=ae (K.trans (if_neg (by rw[hlen];simp[am])));simp only[Kd,if_false] at bd;clear aZ T hlen K;go_upto_region 28 with(fail);have X:World:=aV;clear X;generalize aV=X at *;have d:=N.o;clear Z an ao;have b1:=ae d;obtain⟨bl,U,aE⟩:=d.blk.two;clear d;by_cases bt:acc.length=4000
     .have c8:((acc.length:Int) == 4000)=true:=by simp;omega
      have V:(acc.length == 4000)=true:=by simp;omega
      have a2:=ae (bd.trans (if_pos bt));clear bt;go_wp2
      go_ret3
      exact qL
     have c8:((acc.length:Int) == 4000)=false:=by simp;omega
     have V:(acc.length == 4000)=false:=by simp;omega
     have a2:=ae (bd.trans (if_neg bt));have R:=ae bt;clear bt;have I:eG X b o cap s:=bK.EB b1.below;have bs:=λW=>gm (b:=b) (o:=o) M ai hn W;have c3:=jy I (k:=k) (n:=n) (cap - k) hn;have ar:=ae I;clear I;go_upto_region 31 with(fail);generalize cm:World.setCell X _ _=Y;have z:Below wr.heap.size wr Y:=cm▸b1.below.setCell (p:=⟨wr.heap.size,1,none⟩) (JI _) _;have ag:au Y wr.heap.size 127 #[.int .i64 1,.string (s.extract k (k+n)),.int .i64 0,.int .i64 k]:=cm▸b1.blk.bH 1 _;obtain⟨bA,ab,af⟩:=ag.two;have x:=ae z;clear cm z ag bl U aE bs c3;go_wp2_with((at_builtin;refine eA Y nU rfl (.tmp 119) (.tmp 121) rfl w.heap.size _ _ _ #[.int .i64 1,.string (s.extract k (k+n)),.int .i64 0,.int .i64 k] rfl (bT bW.own x.o) rfl rfl (by simp[Value.oneCell']) ad ad (JZ bW.below.size x.size) ?_;intro v2 cy ax bb E;obtain⟨bg,c2,rfl,P,_⟩:=cj ax));have aa:Below w.heap.size w cy:=hf (bW.below.trans (x.mono bW.below.size)) (bT bW.own x.o) bb (JI _) (JZ bW.below.size x.size);have ah:=ak aa ax;clear aa ax bb E bA ab af;have g:=j9 s b o cap (k+n) cy (H.EB ah.1) hn;rw[Int.natCast_add] at g;refine g.mono ?_;clear g;rintro e J ⟨rfl,rfl⟩;obtain⟨u,bI,b4,ct,bz,cu⟩:=lY s (k+n) hn;rw[cu];have bF:=ak ct bz;clear ct bz cu;go_wp2;go_roundw
     case rel=>
      refine⟨u,acc++[⟨1,(s.data.toList.drop k).take n,0,(k:Int)⟩],rfl,bW.next (m:=k+n) ?_ R.o ad hn (bW.Ej.trans a2.o) ah.1 bI b4 bF.1 bF.2⟩;exact qP
     case measure=>exact aU
  have bO:bQ s[k]=false:=by simpa using hl
  rw[bO];have az:=ae bO;clear hl bO;go_wp2_with(fail);refine(kh s[k] _).mono ?_;rintro e J ⟨rfl,rfl⟩;by_cases hd:bq s[k]=true
  .rw[hd];have ay:=ae hd;clear hd cD;go_wp2_with(fail)
   go_loop [8] (λe=>∃n:Nat,k+n<=s.size/\e=.int .i64 ((k:Int)+(n:Int))/\((s.data.toList.drop k).take n).all bq=true) (λe=>s.size+1 - (intOf e).toNat)
   case atStart=>exact⟨0,ad,by simp,by simp⟩
   case round=>
    obtain⟨n,hn,rfl,aP⟩:=hrel;have HA:=ae aP;clear aP;have t1:((k:Int)+(n:Int)).toNat=k+n:=ad;have a3:(0:Int)<=(k:Int)+(n:Int):=ad;by_cases bj:k+n<s.size
    case' pos=>
     have b5:=aw.o (k+n) bj #[.int .i64 0,.string ⟨#[]⟩,.int .i64 0,.int .i64 k] 127;have db:(k:Int)+(n:Int)<(s.size:Int):=ad;go_wp2_with(fail);refine(kh s[k+n] _).mono ?_;rintro e J ⟨rfl,rfl⟩;by_cases r:bq s[k+n]=true
     .rw[r];have cf:=ae (nS (p:=bq) bj HA.o r);clear r;go_wp2
      go_round
      case rel=>exact⟨n+1,ad,by simp;omega,cf.o⟩
      case measure=>exact aU
     have C:bq s[k+n]=false:=by simpa using r
     rw[C];have aj:=ae (show 0<n from by
      rcases Nat.eq_zero_or_pos n with h0|h0
      .subst h0;simp only[JS] at C;rw[ay.o] at C;cases C
      .exact h0)
     have O:=ae (show ∀h:k+n<s.size,bq (s[k+n]'h)=false from λ_=>C);clear r C b5
    case' neg=>
     have db:decide ((k:Int)+(n:Int)<(s.size:Int))=false:=by simp;omega
     have aj:=ae (show 0<n by omega);have O:=ae (show ∀h:k+n<s.size,bq (s[k+n]'h)=false from λh=>absurd h bj)
    all_goals
     have ai:0<n:=aj.o;have K:=ae (bW.Ej.symm.trans (C9 (f:=s.size - k) (acc:=acc) aq bW.skip az.o ay.o HA.o O.o));have s2:=λW=>gm (b:=b) (o:=o) M ai hn W;go_wp2_with(fail);refine(uD s b o cap k n (cap - k) _ (bK.on (Kf.alloc _)) hn HA.o).mono ?_;rintro e J ⟨rfl,rfl⟩;clear s2;generalize nc ((s.data.toList.drop k).take n)=v at *;by_cases bD:v<0
     .have bd:=ae (K.trans (if_pos bD));have aK:decide (v<0)=true:=by simpa using bD
      clear K;go_wp2
      go_ret3
      exact jU.bad bd.o (bW.below.trans (((Below.refl _ _).alloc (JI _) _).mono bW.below.size))
     have bd:=ae (K.trans (if_neg bD));have aK:decide (v<0)=false:=by simpa using bD
     clear K bD;go_upto_region 28 with(fail);generalize hX:World.alloc wr _=X;have d:r2 wr X 2 v k:=by
      rw[<-hX];exact⟨(Below.refl _ _).alloc (JI _) _,Kg,by simp⟩
     clear hX;have b1:=ae d;obtain⟨bl,U,aE⟩:=d.blk.two;clear d;by_cases bt:acc.length=4000
     .have c8:((acc.length:Int) == 4000)=true:=by simp;omega
      have V:(acc.length == 4000)=true:=by simp;omega
      have a2:=ae (bd.trans (if_pos bt));clear bt;go_wp2
      go_ret3
      exact qL
     have c8:((acc.length:Int) == 4000)=false:=by simp;omega
     have V:(acc.length == 4000)=false:=by simp;omega
     have a2:=ae (bd.trans (if_neg bt));have R:=ae bt;clear bt;have I:eG X b o cap s:=bK.EB b1.below;have bs:=λW=>gm (b:=b) (o:=o) M ai hn W;have c3:=jy I (k:=k) (n:=n) (cap - k) hn;have ar:=ae I;clear I;go_upto_region 31 with(fail);generalize cm:World.setCell X _ _=Y;have z:Below wr.heap.size wr Y:=cm▸b1.below.setCell (p:=⟨wr.heap.size,1,none⟩) (JI _) _;have ag:au Y wr.heap.size 127 #[.int .i64 2,.string (s.extract k (k+n)),.int .i64 v,.int .i64 k]:=cm▸b1.blk.bH 1 _;obtain⟨bA,ab,af⟩:=ag.two;have x:=ae z;clear cm z ag bl U aE bs c3;go_wp2_with((at_builtin;refine eA Y nU rfl (.tmp 119) (.tmp 121) rfl w.heap.size _ _ _ #[.int .i64 2,.string (s.extract k (k+n)),.int .i64 v,.int .i64 k] rfl (bT bW.own x.o) rfl rfl (by simp[Value.oneCell']) ad ad (JZ bW.below.size x.size) ?_;intro v2 cy ax bb E;obtain⟨bg,c2,rfl,P,_⟩:=cj ax));have aa:Below w.heap.size w cy:=hf (bW.below.trans (x.mono bW.below.size)) (bT bW.own x.o) bb (JI _) (JZ bW.below.size x.size);have ah:=ak aa ax;clear aa ax bb E bA ab af;have g:=j9 s b o cap (k+n) cy (H.EB ah.1) hn;rw[Int.natCast_add] at g;refine g.mono ?_;clear g;rintro e J ⟨rfl,rfl⟩;obtain⟨u,bI,b4,ct,bz,cu⟩:=lY s (k+n) hn;rw[cu];have bF:=ak ct bz;clear ct bz cu;go_wp2;go_roundw
     case rel=>
      refine⟨u,acc++[⟨2,(s.data.toList.drop k).take n,v,(k:Int)⟩],rfl,bW.next (m:=k+n) ?_ R.o ad hn (bW.Ej.trans a2.o) ah.1 bI b4 bF.1 bF.2⟩;exact qP
     case measure=>exact aU
  have D:bq s[k]=false:=by simpa using hd
  rw[D];have aG:=ae D;clear hd D cD;go_wp2_with(fail);refine(Dz s b o cap k _ (bK.on (Kf.alloc _)) aq).mono ?_;rintro e aV ⟨rfl,bv⟩;have y:r2 wr aV 0 0 k:=by
   have e1:Ext wr aV:=(Kf.alloc _).trans bv;have av:=(au.new wr 127 #[.int .i64 0,.string ⟨#[]⟩,.int .i64 0,.int .i64 k]).aj bv;exact⟨Fr.ext e1,av,av.lt⟩
  clear bv;have N:=ae y;obtain⟨Z,an,ao⟩:=y.blk.two;clear y;have K:=ae (bW.Ej.symm.trans (xf (f:=s.size - k) (acc:=acc) aq bW.skip az.o aG.o));have ck:=Dy (s.data.toList.drop k) (by rw[cP aq];simp);rw[lC] at ck;generalize ey (s.data.toList.drop k)=n at *;have hn:k+n<=s.size:=ad;by_cases bi:n=0
  .have bS:(((k:Int)+(n:Int)) == (k:Int))=true:=by simp;omega
   have bd:=ae (K.trans (if_pos bi));have dc:(n:Int)=0:=ad;subst bi;clear K bS dc;go_wp2
   go_ret3
   exact jU.bad bd.o (bW.below.trans ((N.below.setCell (p:=⟨wr.heap.size,0,none⟩) (JI _) _).mono bW.below.size))
  have bS:(((k:Int)+(n:Int)) == (k:Int))=false:=by simp;omega
  have bd:=ae (K.trans (if_neg bi));have ai:0<n:=ad;clear K bi;go_upto_region 28 with(fail);generalize hX:World.setCell aV _ _=X;have d:r2 wr X 4 0 k:=by
   exact x7
  clear hX Z an ao;have b1:=ae d;obtain⟨bl,U,aE⟩:=d.blk.two;clear d;by_cases bt:acc.length=4000
  .have c8:((acc.length:Int) == 4000)=true:=by simp;omega
   have V:(acc.length == 4000)=true:=by simp;omega
   have a2:=ae (bd.trans (if_pos bt));clear bt;go_wp2
   go_ret3
   exact qL
  have c8:((acc.length:Int) == 4000)=false:=by simp;omega
  have V:(acc.length == 4000)=false:=by simp;omega
  have a2:=ae (bd.trans (if_neg bt));have R:=ae bt;clear bt;have I:eG X b o cap s:=bK.EB b1.below;have bs:=λW=>gm (b:=b) (o:=o) M ai hn W;have c3:=jy I (k:=k) (n:=n) (cap - k) hn;have ar:=ae I;clear I;go_upto_region 31 with(fail);generalize cm:World.setCell X _ _=Y;have z:Below wr.heap.size wr Y:=cm▸b1.below.setCell (p:=⟨wr.heap.size,1,none⟩) (JI _) _;have ag:au Y wr.heap.size 127 #[.int .i64 4,.string (s.extract k (k+n)),.int .i64 0,.int .i64 k]:=cm▸b1.blk.bH 1 _;obtain⟨bA,ab,af⟩:=ag.two;have x:=ae z;clear cm z ag bl U aE bs c3;go_wp2_with((at_builtin;refine eA Y nU rfl (.tmp 119) (.tmp 121) rfl w.heap.size _ _ _ #[.int .i64 4,.string (s.extract k (k+n)),.int .i64 0,.int .i64 k] rfl (bT bW.own x.o) rfl rfl (by simp[Value.oneCell']) ad ad (JZ bW.below.size x.size) ?_;intro v2 cy ax bb E;obtain⟨bg,c2,rfl,P,_⟩:=cj ax));have aa:Below w.heap.size w cy:=hf (bW.below.trans (x.mono bW.below.size)) (bT bW.own x.o) bb (JI _) (JZ bW.below.size x.size);have ah:=ak aa ax;clear aa ax bb E bA ab af;have g:=j9 s b o cap (k+n) cy (H.EB ah.1) hn;rw[Int.natCast_add] at g;refine g.mono ?_;clear g;rintro e J ⟨rfl,rfl⟩;obtain⟨u,bI,b4,ct,bz,cu⟩:=lY s (k+n) hn;rw[cu];have bF:=ak ct bz;clear ct bz cu;go_wp2;go_roundw
  case rel=>
   refine⟨u,acc++[⟨4,(s.data.toList.drop k).take n,0,(k:Int)⟩],rfl,bW.next (m:=k+n) ?_ R.o ad hn (bW.Ej.trans a2.o) ah.1 bI b4 bF.1 bF.2⟩;exact qP
  case measure=>exact aU
end Go.Proofs.YtnigabjngpnbiaaGreat
