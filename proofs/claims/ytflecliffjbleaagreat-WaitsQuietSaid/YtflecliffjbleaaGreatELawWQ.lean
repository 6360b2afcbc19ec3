/- The law WaitsQuiet, walked. No condition but the gy of slices. -/
import Derived.Test.YtflecliffjbleaaGreatELawWx
namespace Go.Proofs.YtflecliffjbleaaGreat
open Go.RowKit
set_option maxRecDepth 1000000
set_option linter.unusedVariables false
def StQ(Y wr:World)(g:Nat)(u:av)(N:Nat):Prop:=∃(s:ag) (q:SV),aS u N s/\q.Is wr (λb=>b≠g/\b≠g+1/\b<wr.heap.size) s/\Fr (λb=>b=g+1) Y wr/\an wr (g+1) 30 #[.slice q.GA q.gn q.gc,.slice q.TA q.tn q.tc,.slice q.HA q.hn q.hc,.int .i64 s.fault]
theorem is_len{q:SV}{w:World}{P:Nat->Prop}{s:ag}{u:av}{N:Nat}(h:q.Is w P s)(hS:aS u N s):s.threads.length=q.hn/\1<=q.hn/\q.hn<=32:=by
 have h1q7:=h.at_.h.1;have h2q7:=hS.zi;simp only[List.length_map] at h1q7;omega
theorem done_waits{u:av}{s:ag}{t:Nat}(h:s.threads[t]?=some []):cR u s (t:Int)=none:=by
 apply mA
 unfold da;by_cases hfq7:s.fault≠0\/(t:Int)<0
 .rw[if_pos hfq7]
 .rw[if_neg hfq7,Int.toNat_natCast,h];rfl
set_option maxRecDepth 1000000 in
set_option maxHeartbeats 6400000 in
theorem waitsQuiet_any(A B C:Option Addr)(n c m d k c3:Nat)(l pkq7 r:List Int)(rg:Bool)(rd:Int)(w:World)(h:cK (EF b5) 1 w w.heap.size A n l)(hp:cK (EF b5) 1 w w.heap.size B m pkq7)(hrq7:cK (EF b5) 1 w w.heap.size C k r)(hc:n<=c) :
  Calls Tryz.prog 6 #[.slice A n c,.slice B m d,.slice C k c3,.bool rg,.int .i64 rd] w λe w'=>e=.returned (.bool true)/\Below w.heap.size w w':=by
 go_enter Tryz.func6,Tryz.ntmps6;go_wp2_with(fail);refine(state_any A B n c m d l pkq7 w h hp hc).mono ?_;rintro e w1q7 ⟨u,s,⟨GA,gn,gc,MA,mn,mc,PA,pn,pc⟩,⟨SA,snq7,scq7,TA,tn,tc,HA,hn,hc2⟩,rfl,_,hwa,hE1⟩;have H1:=ad (And.intro hwa (And.intro hE1 (hrq7.cS (Fr.ext hE1) hE1.size)));clear hwa hE1 h hp hrq7;dsimp only[UV.val,SV.val];go_upto_region 2 with(fail);generalize hX:World.alloc _ _=X;have hEX:Ext w1q7 X:=by rw[<-hX];exact((Fr.refl _ _).alloc _).alloc _
 have hB4:an X w1q7.heap.size 26 #[.slice GA gn gc,.slice MA mn mc,.slice PA pn pc,.int .i64 u.main]:=by rw[<-hX];exact(an.new _ _ _).alloc _
 have hB5:an X (w1q7.heap.size+1) 30 #[.slice SA snq7 scq7,.slice TA tn tc,.slice HA hn hc2,.int .i64 s.fault]:=by rw[<-hX];exact an.hY _ _ _ (by simp)
 have HXq7:=ad (And.intro (H1.o.1.on hEX) (And.intro (H1.o.2.1.trans hEX) (And.intro hB4 (And.intro hB5 (H1.o.2.2.cS (Fr.ext hEX) hEX.size)))));have hXs:=hB5.lt;have np:=(H1.o.2.1).size;have HEX:=ad hEX;clear hX hEX hB4 hB5;cases rg
 case' false=>
  go_upto_region 4 with(fail);have HYq7:=ad (And.intro HXq7.o.1.hU (And.intro HXq7.o.1.hS (And.intro HXq7.o.2.1 (And.intro HXq7.o.2.2.1 HXq7.o.2.2.2.1))));have HIq7:LR ((⟨SA,snq7,scq7,TA,tn,tc,HA,hn,hc2⟩:SV).Is X (λb=>b≠w1q7.heap.size/\b≠w1q7.heap.size+1/\b<X.heap.size) s):=ad (((SV.Is.ai (P:=au w1q7) ⟨H1.o.1.s.at_,H1.o.1.s.gc,H1.o.1.s.tc,H1.o.1.s.hc⟩ λb hbq7=>HEX.o.block b hbq7 λh=>h).mono λb hbq7=>by have hb':b<w1q7.heap.size:=hbq7;omega));have HKq7:LR (∀Z,Fr (λb=>b=w1q7.heap.size+1) X Z->(⟨GA,gn,gc,MA,mn,mc,PA,pn,pc⟩:UV).Ok Z u):=ad λZ hfq7=>H1.o.1.u.on (Fr.low (M:=λb=>b=w1q7.heap.size+1) ((HEX.o.mono λ_ h=>h.elim).trans hfq7) λb hbq7=>ab);clear HXq7 HEX;generalize X=Y at *
 case' true=>
  obtain⟨x0q7,x0f,x0l⟩:=HXq7.o.2.2.1.two;go_wp2_with(fail);refine(ring_any C k c3 r X HXq7.o.2.2.2.2).mono ?_;rintro e w2q7 ⟨u,s,⟨GA,gn,gc,MA,mn,mc,PA,pn,pc⟩,⟨SA,snq7,scq7,TA,tn,tc,HA,hn,hc2⟩,rfl,hwa,hE2⟩;have hs2:=hE2.size;have H2q7:=ad (And.intro hwa hE2);clear hwa x0q7 x0f x0l;obtain⟨x0q7,x0f,x0l⟩:=(HXq7.o.2.2.1.aj hE2).two;obtain⟨y0q7,y0f,y0l⟩:=(HXq7.o.2.2.2.1.aj hE2).two;clear hE2;dsimp only[UV.val,SV.val];go_upto_region 4 with(fail);generalize hEq7:World.setCell (World.setCell (World.setCell (World.setCell w2q7 _ _) _ _) _ _) _ _=E;obtain⟨hBE,hEE,hFE⟩:=cm (w:=w) [.slice GA gn gc,.slice MA mn mc,.slice PA pn pc,.int .i64 u.main] (by rfl) (HXq7.o.2.2.1.aj H2q7.o.2) (HXq7.o.2.1.trans H2q7.o.2) ab hEq7;have hB1:=(HXq7.o.2.2.2.1.aj H2q7.o.2).on hFE ab;have hes:=hFE.size;generalize hYq7:World.setCell _ _ _=Y;obtain⟨hBY,hEY,hFY⟩:=cm (w:=w) [.slice SA snq7 scq7,.slice TA tn tc,.slice HA hn hc2,.int .i64 s.fault] (by rfl) hB1 hEE ab hYq7;have hys:=hFY.size;have hky:∀b,X.heap.size<=b->b<w2q7.heap.size->Y.heap[b]?=w2q7.heap[b]?:=λb h1q7 h2q7=>(hFY.block b ab ab).trans (hFE.block b h2q7 ab);have hkz:∀Z,Fr (λb=>b=w1q7.heap.size+1) Y Z->∀b,X.heap.size<=b->b<w2q7.heap.size->Z.heap[b]?=w2q7.heap[b]?:=λZ hfq7 b h1q7 h2q7=>(hfq7.block b ab ab).trans (hky b h1q7 h2q7);have HYq7:=ad (And.intro (H2q7.o.1 Y ab hky).1.hU (And.intro (H2q7.o.1 Y ab hky).1.hS (And.intro hEY (And.intro (hBE.on hFY ab) hBY))))
  have HIq7:LR ((⟨SA,snq7,scq7,TA,tn,tc,HA,hn,hc2⟩:SV).Is Y (λb=>b≠w1q7.heap.size/\b≠w1q7.heap.size+1/\b<Y.heap.size) s):=ad ((H2q7.o.1 Y ab hky).2.mono λb hbq7=>ab);have HKq7:LR (∀Z,Fr (λb=>b=w1q7.heap.size+1) Y Z->(⟨GA,gn,gc,MA,mn,mc,PA,pn,pc⟩:UV).Ok Z u):=ad λZ hfq7=>(H2q7.o.1 Z (aC hfq7.size) (hkz Z hfq7)).1.u;clear hEq7 hBE hEE hFE hB1 hYq7 hBY hEY hFY x0q7 x0f x0l y0q7 y0f y0l HXq7 HEX H2q7 hky hkz
 all_goals
  have hYs:=HYq7.o.2.2.1.size;have hgY:w1q7.heap.size+1<Y.heap.size:=HYq7.o.2.2.2.2.lt;go_wp2_with(fail);go_loopw [13] (λivq7 wr=>∃i:Nat,ivq7=.int .i64 i/\i<=40/\StQ Y wr w1q7.heap.size u (60+32*i)) (λivq7 _=>40 - (intOf ivq7).toNat)
  case atStart=>exact⟨0,rfl,ab,s,⟨SA,snq7,scq7,TA,tn,tc,HA,hn,hc2⟩,HYq7.o.2.1.mono ab,HIq7.o,Fr.refl _ _,HYq7.o.2.2.2.2⟩
  case round=>
   obtain⟨i,rfl,hiq7,HPq7⟩:=hrel;replace HPq7:=ad HPq7
   go_wp2_with(fail);refine(mB rd 40 ab ab _).mono ?_;rintro e w' ⟨rfl,rfl⟩;obtain⟨rkq7,hrk⟩:∃rkq7:Int,within rd 40=rkq7:=⟨_,rfl⟩
   have hrk2:0<=rkq7/\rkq7<40:=by rw[<-hrk];unfold within;omega
   rw[hrk];clear hrk;by_cases hlt:(i:Int)<rkq7
   .go_wp2_with(fail);go_loopw [14] (λtvq7 w2q7=>∃t:Nat,tvq7=.int .i64 t/\t<=32/\StQ Y w2q7 w1q7.heap.size u (60+32*i+t)) (λtvq7 _=>32 - (intOf tvq7).toNat)
    case atStart=>exact⟨0,rfl,ab,HPq7.o⟩
    case round=>
     obtain⟨t,rfl,ht,S,⟨QA,qnq7,qc,RA,rnq7,rc,VA,vnq7,vcq7⟩,hS,hqq7,hF,hBq7⟩:=hrel;clear HPq7;have hvl:=(is_len hqq7 hS).2;simp only at hvl;have hys:=hF.size;have HSq7:=ad (And.intro hS (And.intro hqq7 (And.intro hF hBq7)));have HEW:=ad (Fr.low (M:=λb=>b=w1q7.heap.size+1) ((HYq7.o.2.2.1.mono λ_ h=>h.elim).trans hF) λb hbq7=>ab);have hBu:=HYq7.o.2.2.2.1.on hF ab;have HBU:=ad hBu;obtain⟨x0q7,x0f,x0l⟩:=hBu.two;obtain⟨y0q7,y0f,y0l⟩:=hBq7.two;clear hS hqq7 hF hBq7 hBu;by_cases htl:t<vnq7
     .have htl1:(t:Int)<(vnq7:Int):=ab;go_wp2_with(fail);refine(GY u S t (60+32*i+t) _ wr ⟨GA,gn,gc,MA,mn,mc,PA,pn,pc⟩ ⟨QA,qnq7,qc,RA,rnq7,rc,VA,vnq7,vcq7⟩ HYq7.o.1 HSq7.o.1 ab (HKq7.o wr HSq7.o.2.2.1) HSq7.o.2.1 (λb hbq7=>hbq7.2.2)).mono ?_;rintro e w3q7 ⟨⟨Q2,q2q7,p2q7,R2,r2q7,s2,V2,v2,z2q7⟩,rfl,hqq7,hEq7⟩;have hS2:=Ej HYq7.o.1.ok HSq7.o.1 (t:=t);generalize (b9 u S t).2=b2q7 at *;generalize (b9 u S t).1=S2 at *;have hs3:=hEq7.size;have HQq7:=ad (And.intro hqq7 (And.intro hS2 hEq7));clear x0q7 x0f x0l y0q7 y0f y0l;obtain⟨y0q7,y0f,y0l⟩:=(HSq7.o.2.2.2.aj hEq7).two;clear hqq7 hS2 hEq7;dsimp only[SV.val];go_upto_region 9 with(fail);generalize hZq7:World.setCell _ _ _=Z;obtain⟨hBZ,hEZ,hFZ⟩:=cm (w:=w) [.slice Q2 q2q7 p2q7,.slice R2 r2q7 s2,.slice V2 v2 z2q7,.int .i64 S2.fault] (by rfl) (HSq7.o.2.2.2.aj HQq7.o.2.2) (HEW.o.trans HQq7.o.2.2) ab hZq7;have hzs:=hFZ.size;have hn2:StQ Y Z w1q7.heap.size u (60+32*i+(t+1)):=⟨S2,⟨Q2,q2q7,p2q7,R2,r2q7,s2,V2,v2,z2q7⟩,HQq7.o.2.1,(HQq7.o.1.ai λb hbq7=>hFZ.block b (by rcases hbq7 with h|h<;>omega) (by rcases hbq7 with h|h<;>omega)).mono λb hbq7=>by rcases hbq7 with h|h<;>omega,(HSq7.o.2.2.1.trans (HQq7.o.2.2.mono λ_ h=>h.elim)).trans hFZ,hBZ⟩
      have HN2:=ad hn2;clear hn2 hBZ hEZ hFZ hZq7 y0q7 y0f y0l;go_wp2_with(fail);go_roundw
      case rel=>exact⟨t+1,by go_num,ab,HN2.o⟩
      case measure=>simp[intOf]<;>omega
     .have htl1:¬(t:Int)<(vnq7:Int):=ab;go_wp2_with(fail);go_roundw
      case rel=>exact⟨i+1,by go_num,ab,S,⟨QA,qnq7,qc,RA,rnq7,rc,VA,vnq7,vcq7⟩,HSq7.o.1.mono ab,HSq7.o.2⟩
      case measure=>simp[intOf]<;>omega
   .obtain⟨S,⟨QA,qnq7,qc,RA,rnq7,rc,VA,vnq7,vcq7⟩,hS,hqq7,hF,hBq7⟩:=HPq7.o;clear HPq7;have hys:=hF.size;have hEW:=Fr.low (M:=λb=>b=w1q7.heap.size+1) ((HYq7.o.2.2.1.mono λ_ h=>h.elim).trans hF) λb hbq7=>ab;have hwa:jT u S (60+32*i) wr ⟨GA,gn,gc,MA,mn,mc,PA,pn,pc⟩ ⟨QA,qnq7,qc,RA,rnq7,rc,VA,vnq7,vcq7⟩:=⟨HYq7.o.1,hS,ab,HKq7.o wr hF,hqq7.ok λb hbq7=>hbq7.2.2⟩
    have HZq7:=ad (And.intro hwa (And.intro hEW (And.intro (HYq7.o.2.2.2.1.on hF ab) hBq7)));clear hS hqq7 hF hBq7 hEW hwa HYq7 HKq7 HIq7;generalize wr=V at *;have hvl:=HZq7.o.1.len;simp only at hvl;obtain⟨x0q7,x0f,x0l⟩:=HZq7.o.2.2.1.two;obtain⟨y0q7,y0f,y0l⟩:=HZq7.o.2.2.2.two;obtain⟨qbq7,hqb⟩:∃qbq7,jn u S=qbq7:=⟨_,rfl⟩
    have HQB:=ad hqb;have hqq:(qbq7 != qbq7)=false:=by simp
    clear hqb;go_upto_region 11 with(fail);refine eU (λ_=>False) [(0,0),(1,0),(3,0),(4,0),(2,1),(5,1),(6,3)] ?_
    iterate 4 refine ph ?_
    refine aO rfl (λK hK=>?_);go_simp;refine(mquiet u S (60+32*i) V.drew ⟨GA,gn,gc,MA,mn,mc,PA,pn,pc⟩ ⟨QA,qnq7,qc,RA,rnq7,rc,VA,vnq7,vcq7⟩ (HZq7.o.1.on (Fr.refl _ _).drew)).mono ?_;rintro e w3q7 ⟨rfl,hEq7⟩;rw[HQB.o];refine ei hK (hEq7) ?_;clear hK K;have H3q7:=ad (Fr.aQ hEq7);clear hEq7;refine aO rfl (λK hK=>?_);go_simp;refine(rquiet u S (60+32*i) w3q7 ⟨GA,gn,gc,MA,mn,mc,PA,pn,pc⟩ ⟨QA,qnq7,qc,RA,rnq7,rc,VA,vnq7,vcq7⟩ (HZq7.o.1.on H3q7.o)).mono ?_;rintro e w4q7 ⟨rfl,hEq7⟩;rw[HQB.o];refine ei hK (hEq7) ?_;clear hK K;have H4q7:=ad (H3q7.o.trans hEq7);clear hEq7;clear x0q7 x0f x0l y0q7 y0f y0l;obtain⟨x0q7,x0f,x0l⟩:=(HZq7.o.2.2.1.aj H4q7.o).two;obtain⟨y0q7,y0f,y0l⟩:=(HZq7.o.2.2.2.aj H4q7.o).two;refine pf ?_;refine aB ?_;go_wp2_with(fail);refine(mquiet u S (60+32*i) w4q7 ⟨GA,gn,gc,MA,mn,mc,PA,pn,pc⟩ ⟨QA,qnq7,qc,RA,rnq7,rc,VA,vnq7,vcq7⟩ (HZq7.o.1.on H4q7.o)).mono ?_;rintro e w5q7 ⟨rfl,hEq7⟩;rw[HQB.o];have H5q7:=ad (H4q7.o.trans hEq7);clear hEq7;clear x0q7 x0f x0l y0q7 y0f y0l;cases qbq7
    case false=>
     go_wp2_with(fail);refine(awake11 w5q7).mono ?_;rintro e w20 ⟨rfl,hEq7⟩;have H20:=ad ((HZq7.o.2.1.trans H5q7.o).trans hEq7);clear hEq7;go_wp2_with(fail);go_ret;exact⟨rfl,Fr.ext H20.o⟩
    case true=>
     obtain⟨x0q7,x0f,x0l⟩:=(HZq7.o.2.2.1.aj H5q7.o).two;obtain⟨y0q7,y0f,y0l⟩:=(HZq7.o.2.2.2.aj H5q7.o).two;by_cases hfq7:S.fault=0
     case' neg=>
      have hfb:(S.fault != 0)=true:=by simpa using hfq7
      clear hfq7;go_wp2_with(fail);refine(awake11 w5q7).mono ?_;rintro e w20 ⟨rfl,hEq7⟩;have H20:=ad ((HZq7.o.2.1.trans H5q7.o).trans hEq7);clear hEq7;go_wp2_with(fail);go_ret;exact⟨rfl,Fr.ext H20.o⟩
     case' pos=>
      have hfb:(S.fault != 0)=false:=by simpa using hfq7
      have HFq7:=ad hfq7;clear hfq7;have HQW:=ad λ(j:Nat) fs h1q7 h2q7=>uG HZq7.o.1.hU.ok HZq7.o.1.hS HQB.o HFq7.o (t:=j) (fs:=fs) h1q7 h2q7;have HQE:=ad λ(j:Nat) fs h1q7 h2q7=>H5 HZq7.o.1.hU.ok HZq7.o.1.hS HQB.o HFq7.o (t:=j) (fs:=fs) h1q7 h2q7;have HSL:=ad (show ∀(t:Int) (e o:Int),cR u S t=some (e,o)->-1<=o/\o<vnq7 from λt e o h=>by
       have h1q7:=j3 (u:=u) HZq7.o.1.hS;have h2q7:=k1 HZq7.o.1.hU.ok HZq7.o.1.hS h;have h3q7:=nC HZq7.o.1.hS e;omega)
      go_wp2_with(fail);clear x0q7 x0f x0l y0q7 y0f y0l;go_loopw [15,16,17] (λlvq7 ev tvq7 wr=>∃(t:Nat) (lBq7 eBq7:Bool),tvq7=.int .i64 t/\lvq7=.bool lBq7/\ev=.bool eBq7/\t<=vnq7/\(lBq7=true->∃(j:Nat) (fs:List al),S.threads[j]?=some fs/\fs≠[])/\(∀(j o:Nat) (e:Int),j<t->cR u S (j:Int)=some (e,(o:Int))->S.threads[o]?=some []->eBq7=true)/\Ext w5q7 wr) (λ_ _ tvq7 _=>vnq7 - (intOf tvq7).toNat)
      case atStart=>exact⟨0,false,false,rfl,rfl,rfl,ab,λh=>(by cases h),λj o e h=>ab,Fr.refl _ _⟩
      case round=>
       obtain⟨t,lBq7,eBq7,rfl,rfl,rfl,ht,hlB,heB,hEq7⟩:=hrel;have HLE:=ad (And.intro hlB heB);have HEq7:=ad (And.intro (H5q7.o.trans hEq7) hEq7);clear hlB heB hEq7;obtain⟨x0q7,x0f,x0l⟩:=(HZq7.o.2.2.1.aj HEq7.o.1).two;obtain⟨y0q7,y0f,y0l⟩:=(HZq7.o.2.2.2.aj HEq7.o.1).two;by_cases htl:t<vnq7
       .have htl1:(t:Int)<(vnq7:Int):=ab;obtain⟨fbq7,foq7,fs,FA,fn,fc,rfl,hfb,hqf,f0,hfc,hft⟩:=(HZq7.o.1.on HEq7.o.1).s.at_.h.ym (k:=t) htl;have hfl:fs.length=fn:=by have:=hft.1;simpa using this
        have hfb2:fbq7<wr.heap.size:=hfb;obtain⟨rrq7,hrr⟩:∃rrq7,cR u S (t:Int)=rrq7:=⟨_,rfl⟩
        have HRR:=ad hrr;have HQF:=ad (And.intro hqf hfl);clear hrr hqf hfl hft hfb hfc;go_wp2_with(fail);refine(waiting_any false u S t (60+32*i) wr ⟨GA,gn,gc,MA,mn,mc,PA,pn,pc⟩ ⟨QA,qnq7,qc,RA,rnq7,rc,some ⟨fbq7,foq7,none⟩,vnq7,vcq7⟩ (HZq7.o.1.on HEq7.o.1)).mono ?_;rintro e w6q7 ⟨rfl,hEq7⟩;rw[HRR.o];generalize hr1:(rrq7.map Prod.fst).getD 0=r1;generalize hr2:(rrq7.map Prod.snd).getD 0=r2q7;generalize hr3:rrq7.isSome=r3q7;have HR3:=ad (And.intro hr2 hr3);have c1:=(hEq7.cell hfb2 λh=>h).trans f0;have hfb3:=Nat.lt_of_lt_of_le hfb2 hEq7.size;have H6q7:=ad (And.intro (HEq7.o.1.trans hEq7) (HEq7.o.2.trans hEq7));clear hr1 hr2 hr3 f0 hfb2 hEq7;clear x0q7 x0f x0l y0q7 y0f y0l;obtain⟨x0q7,x0f,x0l⟩:=(HZq7.o.2.2.1.aj H6q7.o.1).two;obtain⟨y0q7,y0f,y0l⟩:=(HZq7.o.2.2.2.aj H6q7.o.1).two;rcases Nat.eq_zero_or_pos fn with hfn|hfn
        .have hnil:S.threads[t]?=some []:=by
          have hzq7:fs=[]:=List.eq_nil_of_length_eq_zero (by rw[HQF.o.2];exact hfn);rw[HQF.o.1,hzq7]
         have hrn:rrq7=none:=HRR.o.symm.trans (done_waits hnil);subst hfn hrn;obtain rfl:r3q7=false:=HR3.o.2.symm;have HWq7:=ad (show ∀(j o:Nat) (e:Int),j<t+1->cR u S (j:Int)=some (e,(o:Int))->S.threads[o]?=some []->eBq7=true from λj o e hjq7 hw hoq7=>by
          by_cases hjt:j=t
          .subst hjt;rw[HRR.o] at hw;cases hw
          .exact HLE.o.2 j o e ab hw hoq7)
         clear hnil;cases lBq7
         all_goals cases eBq7
         all_goals
          go_wp2_with(fail);go_roundw
          case rel=>exact⟨t+1,_,_,by go_num,rfl,rfl,ab,λh=>HLE.o.1 (by first|exact h|trivial),λj o e hjq7 hw hoq7=>(by have h9q7:=HWq7.o j o e hjq7 hw hoq7;first|rfl|exact h9q7|exact h9q7.elim),H6q7.o.2⟩
          case measure=>simp[intOf]<;>omega
        .have hfne:fs≠[]:=λh=>by have:=HQF.o.2;rw[h] at this;simp at this;omega
         obtain⟨⟨ee,ooq7⟩,hrs⟩:=HQW.o t fs HQF.o.1 hfne;have hrn:rrq7=some (ee,ooq7):=HRR.o.symm.trans hrs;subst hrn;obtain rfl:r3q7=true:=HR3.o.2.symm;obtain rfl:r2q7=ooq7:=HR3.o.1.symm;have hro:=HSL.o t ee r2q7 hrs;have HLq7:=ad (show ∃(j:Nat) (fs:List al),S.threads[j]?=some fs/\fs≠[] from ⟨t,fs,HQF.o.1,hfne⟩);have hfp:(0:Int)<(fn:Int):=ab;clear hrs hfne;have HWq7:=ad λ(j o:Nat) (e:Int) (hjq7:j<t) hw hoq7=>HLE.o.2 j o e hjq7 hw hoq7;cases eBq7
         case true=>
          cases lBq7
          all_goals
           go_wp2_with(fail);go_roundw
           case rel=>exact⟨t+1,true,true,by go_num,rfl,rfl,ab,λ_=>HLq7.o,λ_ _ _ _ _ _=>rfl,H6q7.o.2⟩
           case measure=>simp[intOf]<;>omega
         case false=>
          by_cases h0:0<=r2q7
          .obtain⟨o2q7,ho2⟩:∃o2q7:Nat,r2q7=o2q7:=⟨r2q7.toNat,ab⟩
           subst ho2;obtain⟨gbq7,go,gs,GBq7,gmq7,gkq7,hgeq,hgb,hqg,g0q7,hgc,hgt⟩:=(HZq7.o.1.on H6q7.o.1).s.at_.h.ym (k:=o2q7) (by show o2q7<vnq7;omega);injection hgeq with hgeq;injection hgeq with e1 e2;subst e1 e2;have hgl:gs.length=gmq7:=by have:=hgt.1;simpa using this
           have HQG:=ad (And.intro hqg hgl);have ho3:(o2q7:Int)<(vnq7:Int):=ab;clear hgb hqg hgc hgt hgl;rcases Nat.eq_zero_or_pos gmq7 with hgq7|hgq7
           .subst hgq7;cases lBq7
            all_goals
             go_wp2_with(fail);go_roundw
             case rel=>exact⟨t+1,true,true,by go_num,rfl,rfl,ab,λ_=>HLq7.o,λ_ _ _ _ _ _=>rfl,H6q7.o.2⟩
             case measure=>simp[intOf]<;>omega
           .have qzq7:((gmq7:Int) == 0)=false:=by simp;omega
            have HW2:=ad (show ∀(j o:Nat) (e:Int),j<t+1->cR u S (j:Int)=some (e,(o:Int))->S.threads[o]?=some []->false=true from λj o e hjq7 hw hoq7=>by
             by_cases hjt:j=t
             .subst hjt;rw[HRR.o] at hw;injection hw with hw;injection hw with e1 e2;obtain rfl:o2q7=o:=ab;rw[HQG.o.1] at hoq7;injection hoq7 with hoq7;have:=HQG.o.2;rw[hoq7] at this;simp at this;omega
             .have h9q7:=HWq7.o j o e ab hw hoq7
              first|exact h9q7|exact h9q7.elim)
            cases lBq7
            all_goals
             go_wp2_with(fail);go_roundw
             case rel=>exact⟨t+1,true,false,by go_num,rfl,rfl,ab,λ_=>HLq7.o,λj o e hjq7 hw hoq7=>(by have h9q7:=HW2.o j o e hjq7 hw hoq7;first|rfl|exact h9q7|exact h9q7.elim),H6q7.o.2⟩
             case measure=>simp[intOf]<;>omega
          .have HW2:=ad (show ∀(j o:Nat) (e:Int),j<t+1->cR u S (j:Int)=some (e,(o:Int))->S.threads[o]?=some []->false=true from λj o e hjq7 hw hoq7=>by
            by_cases hjt:j=t
            .subst hjt;rw[HRR.o] at hw;injection hw with hw;injection hw with e1 e2;omega
            .have h9q7:=HWq7.o j o e ab hw hoq7
             first|exact h9q7|exact h9q7.elim)
           cases lBq7
           all_goals
            go_wp2_with(fail);go_roundw
            case rel=>exact⟨t+1,true,false,by go_num,rfl,rfl,ab,λ_=>HLq7.o,λj o e hjq7 hw hoq7=>(by have h9q7:=HW2.o j o e hjq7 hw hoq7;first|rfl|exact h9q7|exact h9q7.elim),H6q7.o.2⟩
            case measure=>simp[intOf]<;>omega
       .have EG:t=vnq7:=ab;have htl1:¬(t:Int)<(vnq7:Int):=ab;cases lBq7
        case false=>
         go_wp2_with(fail);refine(awake11 wr).mono ?_;rintro e w20 ⟨rfl,hEq7⟩;have H20:=ad ((HZq7.o.2.1.trans HEq7.o.1).trans hEq7);clear hEq7;go_wp2_with(fail);go_ret;exact⟨rfl,Fr.ext H20.o⟩
        case true=>
         cases eBq7
         case true=>
          go_wp2_with(fail);refine(awake11 wr).mono ?_;rintro e w20 ⟨rfl,hEq7⟩;have H20:=ad ((HZq7.o.2.1.trans HEq7.o.1).trans hEq7);clear hEq7;go_wp2_with(fail);go_ret;exact⟨rfl,Fr.ext H20.o⟩
         case false=>
          have hd:0<(gx (aI u S)).length:=by
           obtain⟨j,fs,h1q7,h2q7⟩:=HLE.o.1 (by trivial);rcases HQE.o j fs h1q7 h2q7 with⟨k,o,e,hw,hoq7⟩|h
           .have h3q7:=HLE.o.2 k o e (by have:=(k1 HZq7.o.1.hU.ok HZq7.o.1.hS hw).2.2.2;have:=hvl.1;omega) hw hoq7;simp at h3q7
           .exact h
          go_wp2_with(fail);refine(mdead u S (60+32*i) wr ⟨GA,gn,gc,MA,mn,mc,PA,pn,pc⟩ ⟨QA,qnq7,qc,RA,rnq7,rc,VA,vnq7,vcq7⟩ (HZq7.o.1.on HEq7.o.1)).mono ?_;rintro e w7q7 ⟨A2,c2,rfl,_,_,hEq7⟩;generalize (gx (aI u S)).length=M at *;have hdM:(0:Int)<(M:Int):=ab;have H7q7:=ad (HEq7.o.1.trans hEq7);clear hEq7 x0q7 x0f x0l y0q7 y0f y0l;go_wp2_with(fail);refine(awake11 w7q7).mono ?_;rintro e w20 ⟨rfl,hEq7⟩;have H20:=ad ((HZq7.o.2.1.trans H7q7.o).trans hEq7);clear hEq7;go_wp2_with(fail);go_ret;exact⟨rfl,Fr.ext H20.o⟩
end Go.Proofs.YtflecliffjbleaaGreat
