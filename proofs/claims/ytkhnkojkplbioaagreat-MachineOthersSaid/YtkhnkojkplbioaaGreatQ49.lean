/- Part 49 of the proof. No condition of its own. -/
import Derived.Test.YtkhnkojkplbioaaGreatQ51
namespace Go.Proofs.YtkhnkojkplbioaaGreat
open Go.RowKit Go.Proofs.Tryz
set_option maxRecDepth 1000000
set_option maxHeartbeats 25600000
set_option linter.unusedVariables false
variable{t:Int}{s:ai}{u:ay}
structure sC(s:ai)(t:Int)(T:ai):Prop where
 len:s.threads.length<=T.threads.length
 Hv:T.table.length=s.table.length
 xl:∀i:Nat,i<s.threads.length->(i:Int)≠t->T.threads[i]?=s.threads[i]?
 hold:∀i:Nat,fb T.table i=fb s.table i\/((fb T.table i).owner=t+1\/(fb T.table i).owner=0)/\((fb s.table i).owner=t+1\/(fb s.table i).owner=0)
theorem ya(T:List bV)(k i:Nat)(x:bV):fb (T.set k x) i=fb T i\/fb (T.set k x) i=x/\i=k:=by
 unfold fb;simp only[LI];rw[List.getElem?_set];by_cases h:k=i
 .subst h;by_cases au:k<T.length
  .exact .inr ⟨by simp[au],rfl⟩
  .exact .inl (by simp[au])
 .exact .inl (by simp[h])
theorem tG(f:ak)(x:az)(ht:0<=t):sC s t (bI u s t f x).1:=by
 have hm:∀(g:List ak->List ak) (i:Nat),(i:Int)≠t->(s.threads.modify t.toNat g)[i]?=s.threads[i]?:=λg i an=>by
  have h:¬t.toNat=i:=ad;simp[h]
 have a:∀T:ai,T.table=s.table->s.threads.length<=T.threads.length->(∀i:Nat,i<s.threads.length->(i:Int)≠t->T.threads[i]?=s.threads[i]?)->sC s t T:=λT ac au aY=>⟨au,by rw[ac],aY,λi=>.inl (by rw[ac])⟩
 unfold bI;dsimp only
 repeat' split
 all_goals first
  | exact a _ rfl (Lk _) λ_ _ _=>rfl
  | exact a _ rfl (by simp[aT,kM,qJ]) λi _ an=>by simp only[aT,qJ];exact hm _ i an
  | exact a _ rfl (by simp[aT]) λi hl an=>by simp only[aT];rw[List.getElem?_append_left (by simpa using hl),hm _ i an]
  | exact a _ rfl (by simp[aT,kM]) λi _ an=>(by simp[aT,kM,(show ¬t.toNat=i by omega)])
  | skip
 .rename_i J;refine⟨by simp[aT],by simp[ey],λi _ an=>by simp only[aT];exact hm _ i an,λi=>?_⟩;simp only[fm,J,if_true];rcases ya s.table (bo u s f x.place).1.toNat i ⟨t+1,(fb s.table (bo u s f x.place).1).depth+1⟩ with h|⟨h,an⟩
  .exact .inl h
  .refine .inr ⟨.inl (by rw[h]),?_⟩;have he:fb s.table (i:Nat)=fb s.table (bo u s f x.place).1:=by unfold fb;simp only[LI];rw[an]
   rw[he];simp only[free,Lw,Bool.or_eq_true,beq_iff_eq] at J;rcases J.2 with h|h
   .exact .inr h
   .exact .inl h.1
 .rename_i J;refine⟨by simp[aT],by simp[ei],λi _ an=>by simp only[aT];exact hm _ i an,λi=>?_⟩;simp only[cL,J,if_true];rcases ya s.table (bo u s f x.place).1.toNat i (down (fb s.table (bo u s f x.place).1)) with h|⟨h,an⟩
  .exact .inl h
  .have he:fb s.table (i:Nat)=fb s.table (bo u s f x.place).1:=by unfold fb;simp only[LI];rw[an]
   simp only[heldBy,Lw,beq_iff_eq] at J;refine .inr ⟨?_,.inl (by rw[he];exact J.2)⟩;rw[h];unfold down;split
   .exact .inr rfl
   .exact .inl J.2
theorem tH:sC s t (aV u s t).1/\((aV u s t).2=false->(aV u s t).1=s):=by
 have ba:sC s t s:=⟨Lk _,rfl,λ_ _ _=>rfl,λ_=>.inl rfl⟩
 unfold aV;split
 .rename_i f x J hx;refine⟨tG f x (gy J).2.1,?_⟩;unfold bI;dsimp only
  repeat' split
  all_goals first
   | exact λ_=>rfl
   | exact λh=>by cases h
 .exact⟨ba,λ_=>rfl⟩
theorem tb{X:List bD}{T aw:List bV}{m:Int}{th:Nat}(bf:(th:Int)≠t)(h:∀i:Nat,fb aw i=fb T i\/((fb aw i).owner=t+1\/(fb aw i).owner=0)/\((fb T i).owner=t+1\/(fb T i).owner=0)):depth X aw m th=depth X T m th:=by
 have bz:∀i,kA X aw m th i=kA X T m th i:=λi=>by
  unfold kA;rcases h i with h|⟨ac,au⟩
  .rw[h]
  .rw[if_neg (λah=>by have:=ah.2.1;omega),if_neg (λah=>by have:=ah.2.1;omega)]
 unfold depth;generalize (own X).length=k
 induction k with
 | zero=>rfl
 | succ k ao=>simp only[fk,ao,bz]
namespace DD
theorem Au{p:Prop}(h:p:=by
 obtain⟨b2,ai,N⟩:=bO.2.two;clear cu bt bK cd;go_wp2_with(fail);refine(mr ⟨bU,bW,bE,TA,tn,tc,HA,hn,ca⟩ S t Y bu.2.1 aA aB).mono ?_;rintro e b6 ⟨rfl,a4⟩;simp only;generalize within t hn=t2;have bP:=ae a4;clear a4 b2 ai N;obtain⟨bx,a5,aT⟩:=(bO.1.aj bP.o).two;obtain⟨b2,ai,N⟩:=(bO.2.aj bP.o).two;go_upto_region 4 with(fail);go_wp2_with(fail);have ch:=qv u S t2 60 b6 ⟨GA,gn,gc,MA,mn,mc,PA,pn,pc⟩ ⟨bU,bW,bE,TA,tn,tc,HA,hn,ca⟩ H1.1 bc.2.2.1 ad (bu.1.on bP.o) (bu.2.1.on bP.o);have am:=iP (t:=t2) H1.1.ok bc.2.2.1;have ao:=tH (u:=u) (s:=S) (t:=t2);generalize aM:(aV u S t2).1=T at *;generalize (aV u S t2).2=b at *;refine ch.mono ?_;rintro e cK ⟨⟨aJ,aL,aK,bf,I,L,bV,ci,bn⟩,rfl,av,co⟩;have U:=av.ok λb O=>(O.resolve_left λh=>h).2;have aa:=am.small H1.1.ok ad;have b5:=cJ U (bP.trans co) am aa ao;clear av U co bx a5 aT b2 ai N ch am aa ao aM;dsimp only[SV.val];go_upto_region 5 with(fail);generalize bF:World.alloc _ _=Z;have bd:=aW bF;have bk:=aI bF;have bh:=aE (b5.1.on bd) (b5.2.1.trans bd) bk;clear bF bd bk;have hlen:hn=S.threads.length/\ci=T.threads.length/\tn=S.table.length/\I=T.table.length:=⟨by have:=bc.1.at_.h.1;simpa using this.symm,by have:=b5.1.at_.h.1;simpa using this.symm,by have:=bc.1.at_.t.1;simpa using this.symm,by have:=b5.1.at_.t.1;simpa using this.symm⟩
 have hle:hn<=ci:=by have:=b5.2.2.2.2.1.len;omega
 obtain rfl:I=tn:=by have:=b5.2.2.2.2.1.Hv;omega
 have b8:=ae hlen;clear hlen;have az:¬ci<hn:=ad;have b3:mn<=64:=by have ac:=bu.1.at_.m.1;have au:=H1.1.ok.vB.1;simp at ac;omega
 obtain⟨b2,ai,N⟩:=(bO.2.aj bh.2.1).two;obtain⟨a1,g,f⟩:=bh.2.2.two;go_wp2_with(fail);go_loopw [13] (λcy wr=>∃i:Nat,cy=.int .i64 i/\i<=hn/\Ext Z wr) (λcy _=>hn - (intOf cy).toNat)
 case atStart=>exact⟨0,rfl,ad,LW⟩
 case round=>
  obtain⟨i,rfl,an,aw⟩:=hrel;have bo:=ag (bh.2.1.trans aw) aw;clear b2 ai N a1 g f;obtain⟨b2,ai,N⟩:=(bO.2.aj bo.1).two;obtain⟨a1,g,f⟩:=(bh.2.2.aj aw).two;clear aw;by_cases al:i<hn
  .by_cases P:(i:Int)=t2
   .subst P;have q1:((i:Int) != (i:Int))=false:=by simp
    go_wp2;go_quiet (fail)
    go_wp2_with(fail);go_loopw [14] (λcO cM=>cO=.int .i64 0/\Ext Z cM) (λ_ _=>0)
    case atStart=>exact⟨rfl,(bo.2).drewN _⟩
    case round=>
     obtain⟨rfl,aZ⟩:=hrel;have aX:=ae aZ;clear aZ;go_wp2_with(fail);go_roundw
     case rel=>exact⟨i+1,by go_num,ad,aX.o⟩
     case measure=>exact aH
   .have q1:((i:Int) != t2)=true:=by simpa using P
    obtain⟨cj,cY,R,FA,x,ic,rfl,cx,G,c0,b0,y⟩:=(bh.1.on bo.2).at_.h.kp (k:=i) (by show i<ci;omega);obtain⟨bL,go,gt,dg,z,dc,rfl,dR,o,d0,ba,a6⟩:=(bu.2.1.on bo.1).at_.h.kp al;have bN:cj<wr.heap.size:=cx;have aO:bL<wr.heap.size:=dR;have bG:R=gt:=by
     have h:=b5.2.2.2.2.1.xl i (aD b8.1) P;rw[G,o] at h;injection h
    subst bG;have bI:=bc.2.2.2.f R (Ln o);have cn:x=R.length:=by have:=y.1;simpa using this.symm
    have bb:x<=1000000:=ad;have bX:=bJ P y a6 bI.2;have c3:i<ci:=ad;clear P cx dR G o y a6 b0 ba bI cn;go_upto_region 10 with(fail);refine eC (λ_=>False) [(0,3),(1,3),(2,3),(3,3),(4,3),(5,0),(6,3),(7,3),(8,0),(9,3),(10,0),(11,3),(12,3),(13,0),(14,2),(15,3),(16,3)] ?_
    iterate 5 refine pf ?_
    refine ph ?_
    iterate 2 refine pf ?_
    refine ph ?_;refine pf ?_;refine ph ?_
    iterate 2 refine pf ?_
    refine ph ?_;refine ax rfl (λK hK=>?_);go_simp;have a3:Ext wr wr.drew:=LW.drew;refine(oy FA dg x ic z dc R R wr.drew (bX.2.1.on (Fr.ext a3)) (bX.2.2.1.on (Fr.ext a3)) bb bX.2.2.2).mono ?_;rintro r gR ⟨cg,rfl,O,co⟩;obtain rfl:cg=true:=O.2 rfl;have cc:=ag (bo.1.trans (Fr.aF co)) (bo.2.trans (Fr.aF co));clear O co a3 b2 ai N a1 g f c0 d0;refine dP hK ?_;clear hK K
    iterate 2 refine pf ?_
    refine aC ?_;go_wp2_with(fail);go_loopw [14] (λcO cM=>∃j:Nat,cO=.int .i64 j/\j<=mn/\Ext Z cM) (λcO _=>mn - (intOf cO).toNat)
    case atStart=>exact⟨0,rfl,ad,cc.2⟩
    case round=>
     obtain⟨j,rfl,bi,aZ⟩:=hrel;have aX:=ag (bh.2.1.trans aZ) aZ;clear aZ;obtain⟨bx,a5,aT⟩:=(bO.1.aj aX.1).two;obtain⟨b2,ai,N⟩:=(bO.2.aj aX.1).two;obtain⟨a1,g,f⟩:=(bh.2.2.aj aX.2).two;by_cases bq:j<mn
     .have M:depth u.af T.table j i=depth u.af S.table j i:=tb bX.1 b5.2.2.2.2.1.hold;have bV:=ae (λ(V:World) (hV:Below wr.heap.size wr V)=>(rQ MA bf mn mc I L u.af T.table j i V ((bu.1.on (aX.1.trans (Fr.of hV))).at_.m.mT) H1.1.ok.vB (bu.1.mc) ((bh.1.on (aX.2.trans (Fr.of hV))).at_.t.holds) (b5.2.2.1.tok ad) bh.1.tc).mono (λF J ah=>And.intro (show F=.returned (.int .i64 (depth u.af S.table j i)) by rw[ah.1,M]) (show Below V.heap.size V J from ah.2)));have cb:=ae (λ(V:World) (hV:Below wr.heap.size wr V)=>(rQ MA TA mn mc I tc u.af S.table j i V ((bu.1.on (aX.1.trans (Fr.of hV))).at_.m.mT) H1.1.ok.vB (bu.1.mc) ((bu.2.1.on (aX.1.trans (Fr.of hV))).at_.t.holds) (bc.2.2.1.tok ad) bu.2.1.tc));generalize depth u.af S.table j i=aF at *;have cN:(aF != aF)=false:=by simp
      have c8:=ae (λ(V:World) (hV:Below wr.heap.size wr V)=>And.intro ((hV.cell (p:=⟨aS.heap.size+1,1,none⟩) aT).trans (bx 1)) (And.intro ((hV.cell (p:=⟨aU.heap.size,1,none⟩) N).trans (b2 1)) ((hV.cell (p:=⟨cK.heap.size,1,none⟩) f).trans (a1 1))));clear M;go_upto_region 15 with(fail);refine eC (λ_=>False) [(0,3),(1,0),(2,3),(3,0),(4,3),(5,3),(7,3),(8,0),(9,3),(10,0),(11,3),(12,3),(6,1),(13,1),(14,3)] ?_;refine pf ?_;refine ph ?_;refine pf ?_;refine ph ?_
      iterate 3 refine pf ?_
      refine ph ?_;refine pf ?_;refine ph ?_
      iterate 2 refine pf ?_
      clear bx a5 aT b2 ai N a1 g f;refine aG rfl (λK hK=>?_);go_simp;refine(bV.o wr.drew ((Below.refl _ _).drew)).mono ?_;rintro r c7 ⟨rfl,bB⟩;refine dq hK ((Fr.of bB)) ?_;clear hK K;refine aG rfl (λK hK=>?_);go_simp;have ap:Below wr.heap.size wr c7:=Below.trans ((Below.refl wr.heap.size wr).drew) bB;refine(cb.o c7 ap).mono ?_;rintro r cS ⟨rfl,Q⟩;refine dq hK ((Fr.of Q)) ?_;clear hK K;refine pf ?_;refine aC ?_;go_wp2_with(fail);go_roundw
      case rel=>exact⟨j+1,by go_num,ad,(aX.2.trans (Fr.of ap)).trans (Fr.of Q)⟩
      case measure=>exact aH
     .go_wp2_with(fail);go_roundw
      case rel=>
       have bA:i+1<=hn:=ad;exact⟨i+1,by go_num,bA,aX.2⟩
      case measure=>exact aH
  .have q1:¬i<hn:=al;have bZ:b=false->Calls prog 20 #[.agg ((⟨aJ,aL,aK,bf,I,L,bV,ci,bn⟩:SV).val T),.agg ((⟨bU,bW,bE,TA,I,tc,HA,hn,ca⟩:SV).val S)] wr λe ab=>e=.returned (.bool true)/\Ext wr ab:=λO=>by
    have ay:=b5.2.2.2.2.2 O;have ac:=bh.1.on bo.2;have au:=bu.2.1.on bo.1;have aY:=bc.2.2.2;rw[ay] at ac ⊢;exact vg S _ _ wr ac au aY
   have bZ:=ae bZ;clear an al;cases b
   case' false=>
    go_wp2_with(fail);refine(bZ.o (by trivial)).mono ?_;rintro e cS ⟨rfl,af⟩;have aj:=ae af;clear af b2 ai N a1 g f;go_wp2_with(fail)
   case' true=>
    have aj:=ae (Fr.refl (λ_=>False) wr);go_wp2_with(fail)
   all_goals
    refine(DV _).mono ?_;rintro e fn ⟨rfl,aP⟩;go_wp2_with(fail);go_ret;exact⟨rfl,Fr.ext (((bu.2.2.trans bo.1).trans aj.o).trans aP)⟩
 ):p:=h
end DD
open DD in
theorem machineOthers_any(A B:L3)(n c m d:Nat)(l ak:List Int)(t:Int)(w:World)(h:cp (EF cP) 1 w w.heap.size A n l)(hp:cp (EF cP) 1 w w.heap.size B m ak)(hc:n<=c) :
  Calls prog 7 #[.slice A n c,.slice B m d,.int .i64 t] w λe ab=>e=.returned (.bool true)/\Below w.heap.size w ab:=by
 have H:=ag h hp;clear h hp;go_enter func7,ntmps7;exact At
end Go.Proofs.YtkhnkojkplbioaaGreat
