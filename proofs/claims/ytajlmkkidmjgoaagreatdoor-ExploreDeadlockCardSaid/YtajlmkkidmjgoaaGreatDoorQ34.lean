/- Part 34 of the proof. No condition of its own. -/
import Derived.Test.YtajlmkkidmjgoaaGreatDoorQ26
namespace Go.Proofs.YtajlmkkidmjgoaaGreatDoor
open Go.RowKit Go.Proofs.Tryz
set_option maxRecDepth 1000000
set_option maxHeartbeats 25600000
set_option linter.unusedVariables false
def pt(x:Int):Int:=if Int.tmod x 16=7 then x else within x 4
def ew(l:List Int)(m:Nat):List Int:=(l.take m).map pt
theorem picks_low(A:IP)(n c m:Nat)(l:List Int)(w:World)(h:cJ (EF cD) 1 w w.heap.size A n l)(hm:m<=1000) :
  Calls prog 12 #[.slice A n c,.int .i64 m] w λr ab=>∃aE L,r=.returned (.slice aE (ew l m).length L)/\(ew l m).length<=L/\cJ (EF cD) 1 ab ab.heap.size aE (ew l m).length (ew l m)/\Below w.heap.size w ab/\∀g,(Value.slice aE (ew l m).length L).ownBlock=some g->w.heap.size<=g:=by
 have hl:=h.1;have bL:=ae hl;clear hl;go_enter func12,ntmps12;go_wp2;go_loopw [5,6] (λv i wr=>∃k:Nat,k<=n/\k<=m/\i=.int .i64 k/\wr.ownsRow w.heap.size 3 1 v k (((l.take k).map pt).flatMap cD)/\Below w.heap.size w wr) (λ_ i _=>n - (intOf i).toNat)
 case atStart=>exact⟨0,Ix _,Ix _,rfl,World.ownsRow_nil _ _ _ _,Below.refl _ _⟩
 case round=>
  obtain⟨k,ap,s,rfl,I,O⟩:=hrel;by_cases al:k<n/\k<m
  .obtain⟨Q,bM⟩:=al;obtain⟨b,o,x,rfl,ao,hx,c0⟩:=(h.eQ O).int Q;have cb:=O.size;have bs:=ae (show ((l.take (k+1)).map pt).flatMap cD=((l.take k).map pt).flatMap cD++[.int .i64 (pt x)] by rw[a0 hx,Ig,List.map_singleton,iD]);clear hx;have e:pt x=if Int.tmod x 16=7 then x else within x 4:=rfl
   have j:=ae e;clear e;by_cases C:Int.tmod x 16=7
   .have q:=ae C;have f:(Int.tmod x 16 == 7)=true:=by simpa using C
    clear C;go_wp2_with(at_builtin;refine cI _ dT (by rfl) (.tmp 24) (.tmp 29) (by rfl) w.heap.size _ _ _ _ (by rfl) I (by rfl) (by rfl) (mg _ _) ad ad cb ?_;intro v1 aO az bT cm);go_roundw
    case rel=>exact⟨k+1,ad,ad,by go_num,by rw[bs.o,j.o,if_pos q.o];exact az,eL O I bT (Hx _) cb⟩
    case measure=>exact aF
   .have q:=ae C;have f:(Int.tmod x 16 == 7)=false:=by simpa using C
    clear C;go_wp2_with(fail);refine(within_any x 4 ad ad _).mono ?_;rintro r ab ⟨rfl,rfl⟩;go_wp2_with(at_builtin;refine cI _ dT (by rfl) (.tmp 31) (.tmp 37) (by rfl) w.heap.size _ _ _ _ (by rfl) I (by rfl) (by rfl) (mg _ _) ad ad cb ?_;intro v1 aO az bT cm);go_roundw
    case rel=>exact⟨k+1,ad,ad,by go_num,by rw[bs.o,j.o,if_neg q.o];exact az,eL O I bT (Hx _) cb⟩
    case measure=>exact aF
  .obtain⟨cF,c1,rfl,a6,_,_,_⟩:=bI I;have hlen:(ew l m).length=k:=by
    have:=bL.o;unfold ew;rw[Ib,List.length_take];omega
   have he:(l.take k).map pt=ew l m:=by
    have:=bL.o;unfold ew;congr 1
    rcases Nat.lt_or_ge k m with ac|ac
    .rw[Ih ad,Ih ad]
    .rw[show k=m by omega]
   obtain⟨F,bf⟩:=aN hlen he;clear hlen he;have fin:∃aE L,Ending.returned (.slice cF k c1)=.returned (.slice aE (ew l m).length L)/\(ew l m).length<=L/\cJ (EF cD) 1 wr wr.heap.size aE (ew l m).length (ew l m)/\Below w.heap.size w wr/\∀g,(Value.slice aE (ew l m).length L).ownBlock=some g->w.heap.size<=g:=by
    rw[F.o,<-bf.o];exact⟨cF,c1,rfl,a6,jb I (me _) (by rw[bf.o];exact F.o),O,λg aM=>(I.lt g aM).1⟩
   have d:=ae fin;clear fin;by_cases Q:k<n
   .have t:¬k<m:=λaG=>al ⟨Q,aG⟩;clear al;go_wp2;go_ret;exact d.o
   .clear al;go_wp2;go_ret;exact d.o
theorem Fq(A:IP)(n c m:Nat)(l:List Int)(w:World)(h:cJ (EF cD) 1 w w.heap.size A n l)(hm:m<=1000) :
  Calls prog 12 #[.slice A n c,.int .i64 m] w λr ab=>∃aE L,r=.returned (.slice aE (ew l m).length L)/\(ew l m).length<=L/\cJ (EF cD) 1 ab ab.heap.size aE (ew l m).length (ew l m)/\Below w.heap.size w ab:=
 (picks_low A n c m l w h hm).mono λ_ _ ⟨aE,L,ac,J,aR,bv,_⟩=>⟨aE,L,ac,J,aR,bv⟩
end Go.Proofs.YtajlmkkidmjgoaaGreatDoor
