/- Part 44 of the proof. No condition of its own. -/
import Derived.Test.YtflecliffjbleaaGreatS34
import Derived.Test.YtflecliffjbleaaGreatS43
namespace Go.Proofs.YtflecliffjbleaaGreat
open Go.RowKit Go.Proofs.Tryz
set_option maxRecDepth 1000000
set_option maxHeartbeats 25600000
set_option linter.unusedVariables false
variable{T:List Tok}{F f k:Nat}{st:az}
def tC(T:List Tok)(k:Nat):Option (az×Nat):=match T[k+1]? with
 | none=>none
 | some t=>
  if t.kind=1 then
   if b3 [103,111] T k then (wK T (k+2)).bind λr=>if b3 [59] T (eQ (k+2) r) && decide (eQ (k+2) r+1<T.length) then some (.call true (strOf t.text) (r.map kt),eQ (k+2) r+1) else none
   else if b3 [108,111,99,107] T k && !b3 [91] T (k+2) && b3 [59] T (k+2) && decide (k+3<T.length) then some (.lock false ⟨strOf t.text,none⟩,k+3)
   else if b3 [117,110,108,111,99,107] T k && !b3 [91] T (k+2) && b3 [59] T (k+2) && decide (k+3<T.length) then some (.lock true ⟨strOf t.text,none⟩,k+3)
   else none
  else none
theorem yu{s:ByteArray}(h:((wK T (k+2)).bind λr=>if b3 [59] T (eQ (k+2) r) && decide (eQ (k+2) r+1<T.length) then some (az.call true s (r.map kt),eQ (k+2) r+1) else none)=some (st,F)):
  ∃r,yF T (k+2) r/\b3 [59] T (eQ (k+2) r)=true/\eQ (k+2) r+1<T.length/\st=.call true s (r.map kt)/\F=eQ (k+2) r+1:=by
 cases hl:wK T (k+2) with
 | none=>rw[hl] at h;cases h
 | some r=>
  rw[hl] at h;simp only[Option.bind_some] at h;split at h
  .rename_i hc;simp only[LO,Md] at hc;injection h with h;injection h with ac ax;exact⟨r,uD hl,hc.1,hc.2,ac.symm,ax.symm⟩
  .cases h
theorem yv(h:tC T k=some (st,F)):k+3<=F:=by
 unfold tC at h;split at h
 .cases h
 .split at h
  .split at h
   .obtain⟨r,_,_,_,_,h⟩:=yu h;have:=yf (k+2) r;omega
   .split at h
    .injection h with h;injection h with _ h;omega
    .split at h
     .injection h with h;injection h with _ h;omega
     .cases h
  .cases h
theorem Gi(g:Nat)(A:Mk)(n c:Nat)(T:List Tok)(k deep:Nat)(w:World)(st:az)(F:Nat)(h:bG w g A n c T k deep)(hs:tC T k=some (st,F)) :
  Calls prog 107 #[.pointer (some ⟨g,0,none⟩)] w λe ab=>∃(q:Int) (a b:ByteArray) (D:Mk) (m l:Nat),e=.returned (.agg #[.int .i64 q,.string a,.int .i64 0,.int .i64 0,.string ⟨#[]⟩,.slice none 0 0,.string b,.slice none 0 0,.slice D m l,.slice none 0 0,.slice none 0 0])/\(bg st).rep ab (fresh w ab) [.int .i64 q,.string a,.int .i64 0,.int .i64 0,.string ⟨#[]⟩,.slice none 0 0,.string b,.slice none 0 0,.slice D m l,.slice none 0 0,.slice none 0 0]/\bG ab g A n c T F deep/\Fr (λb=>b=g) w ab:=by
 have hl:=h.tF.1;unfold tC at hs;split at hs
 .cases hs
 .rename_i t ht;split at hs
  .rename_i bv;split at hs
   .rename_i hc;obtain⟨r,bw,aU,aj,rfl,rfl⟩:=yu hs;refine(JC g A n c T k deep w t h hc ht bv r bw aU ad).mono ?_;rintro e ab ⟨D,m,l,rfl,hm,hS,be,hF⟩;exact⟨4,_,_,D,m,l,rfl,Iv hS hm,be,hF⟩
   .split at hs
    .rename_i hc;simp only[LO,Md,Bool.not_eq_true'] at hc;injection hs with hs;injection hs with ac ax;subst ac ax;refine(Gh g A n c T k deep w t h hc.1.1.1 ht bv hc.1.1.2 hc.1.2 ad).mono ?_;rintro e ab ⟨rfl,be,hF⟩;exact⟨5,_,_,none,0,0,rfl,vi false _,be,hF⟩
    .split at hs
     .rename_i hc;simp only[LO,Md,Bool.not_eq_true'] at hc;injection hs with hs;injection hs with ac ax;subst ac ax;refine(zp g A n c T k deep w t h hc.1.1.1 ht bv hc.1.1.2 hc.1.2 ad).mono ?_;rintro e ab ⟨rfl,be,hF⟩;exact⟨6,_,_,none,0,0,rfl,vi true _,be,hF⟩
     .cases hs
  .cases hs
def jS(T:List Tok):Nat->Nat->Option (List az×Nat)
 | 0,_=>none
 | f+1,k=>if b3 [125] T k then (if k+1<T.length then some ([],k+1) else none) else (tC T k).bind λp=>(jS T f p.2).map λq=>(p.1::q.1,q.2)
theorem xf{ls:List az}(h:jS T f k=some (ls,F)):(b3 [125] T k=true/\k+1<T.length/\ls=[]/\F=k+1)\/(b3 [125] T k=false/\∃(st:az) (bR f2:Nat) (t:List az),tC T k=some (st,bR)/\jS T f2 bR=some (t,F)/\ls=st::t):=by
 cases f with
 | zero=>cases h
 | succ f=>
  simp only[jS] at h;split at h
  .rename_i ac;split at h
   .rename_i ax;injection h with h;injection h with a1 aU;exact .inl ⟨ac,ax,a1.symm,aU.symm⟩
   .cases h
  .rename_i ac
   cases hs:tC T k with
   | none=>rw[hs] at h;cases h
   | some p=>
    rw[hs] at h;obtain⟨st,bR⟩:=p;simp only[Option.bind_some] at h
    cases a9:jS T f bR with
    | none=>rw[a9] at h;cases h
    | some q=>
     rw[a9] at h;simp only[Option.map_some] at h;injection h with h;injection h with a1 aU;subst aU;exact .inr ⟨by simpa using ac,st,bR,f,q.1,rfl,a9,a1.symm⟩
theorem ER(g:Nat)(A:Mk)(n c:Nat)(T:List Tok)(k deep:Nat)(w:World)(f:Nat)(ls:List az)(F:Nat)(h:bG w g A n c T k deep)(hd:deep<24)(ac:b3 [123] T k=true)(aj:k+1<n)(hs:jS T f (k+1)=some (ls,F)) :
  Calls prog 67 #[.pointer (some ⟨g,0,none⟩)] w λe ab=>∃(bH:Mk) (on bB:Nat),e=.returned (.slice bH on bB)/\on<=bB/\Sl ab (fresh w ab) bH on (ls.map bg)/\bG ab g A n c T F deep/\Fr (λb=>b=g) w ab:=by
 have H:=ae h;have bS:=ah ac hs;have cu:=h.blk.lt;have L:=h.jf;have aw:((deep:Int) == 24)=false:=by simp;omega
 clear h ac hs;go_enter func67,ntmps67;go_wp2_with(fail);refine(show Calls prog 60 #[.pointer (some ⟨g,0,none⟩),.string ⟨#[123]⟩] w _ from lV [123] g A n c T k deep w H.o).mono ?_;rintro e aP ⟨rfl,aF⟩;rw[bS.1];have H1:=ah (H.aj aF) (aF.mono (M':=λb=>b=g) λ_ h=>h.elim);clear aF;obtain⟨a0,ak,af⟩:=H1.1.blk.two;go_wp2_with(fail);refine(show Calls prog 106 #[.pointer (some ⟨g,0,none⟩),.string ⟨#[123]⟩] aP _ from kd [123] g A n c T k deep aP H1.1 bS.1 aj).mono ?_;rintro e aW ⟨rfl,be,hF⟩;have bZ:=ah be (H1.2.trans hF);clear be hF a0 ak af H1;obtain⟨a0,ak,af⟩:=bZ.1.blk.two;go_upto_region 5 with(fail);generalize hX:World.setCell _ _ _=X;have J:=cJ hX;have aS:ao X g 123 #[.slice A n c,.int .i64 ((k+1:Nat):Int),.int .i64 0,.int .i64 0,.int .i64 0,.int .i64 ((deep+1:Nat):Int)]:=hX▸bZ.1.blk.aJ 5 (.int .i64 ((deep:Int)+1));have aR:=ah (show bG X g A n c T (k+1) (deep+1) from ⟨aS,bZ.1.tF.fH (J.below (aB bZ.1.blk.lt) λb O hm=>ad),aj,L⟩) (bZ.2.trans J);clear hX J aS a0 ak af bZ;go_wp2_with(fail);go_loopw [3] (λQ wr=>∃(bH:Mk) (on bB j br:Nat) (acc rest:List az),Q=.slice bH on bB/\on<=j/\bG wr g A n c T j (deep+1)/\Fr (λb=>b=g) w wr/\Gr (λb=>w.heap.size<=b) w.heap.size 188 11 wr bH on bB (acc.map bg)/\jS T br j=some (rest,F)/\acc++rest=ls) (λQ _=>4001 - En Q)
 case atStart=>exact⟨none,0,0,k+1,f,[],ls,rfl,ad,aR.1,aR.2,Gr.nil _ _ _ _ _,bS.2,rfl⟩
 case round=>
  obtain⟨bH,on,bB,j,br,acc,rest,rfl,b7,be,hF,hG,cm,y⟩:=hrel;clear aR;have K:=be.lt;have a2:=bA be hF hG y;obtain⟨a0,ak,af⟩:=be.blk.two;have ns:=hF.size;clear be hF hG y;rcases xf cm with⟨hc,fm,i,E⟩|⟨hc,st,bR,f2,t,cg,bP,b9⟩
  .have bW:=bA hc fm i E;clear hc fm i E cm;go_wp2_with(fail);refine(show Calls prog 62 #[.pointer (some ⟨g,0,none⟩),.string ⟨#[125]⟩] wr _ from cG [125] g A n c T j (deep+1) wr a2.1 true bW.1 (λ_=>by have:=bW.2.1;have:=a2.1.tF.1;omega)).mono ?_;rintro e b4 ⟨rfl,be,hF⟩;have bY:=ah (show bG b4 g A n c T (j+1) (deep+1) from by simpa using be) hF;clear be hF a0 ak af;obtain⟨a0,ak,af⟩:=bY.1.blk.two;go_upto_region 9 with(fail);generalize hX:World.setCell _ _ _=X;have J:=cJ hX;have aS:ao X g 123 #[.slice A n c,.int .i64 ((j+1:Nat):Int),.int .i64 0,.int .i64 0,.int .i64 0,.int .i64 (deep:Int)]:=hX▸bY.1.blk.aJ 5 (.int .i64 (deep:Int));have ay:Fr (λb=>b=g) wr X:=bY.2.trans J;have aR:=aA (show bG X g A n c T (j+1) deep from ⟨aS,bY.1.tF.fH (J.below (aB bY.1.blk.lt) λb O hm=>ad),bY.1.lt,L⟩) (a2.2.1.trans ay) (a2.2.2.1.cS ay λb O _=>⟨ad,ad⟩);clear hX J aS ay a0 ak af bY;go_wp2_with(fail);go_ret;refine⟨bH,on,bB,rfl,aR.2.2.cap.1,?_,by rw[bW.2.2.2];exact aR.1,aR.2.1⟩;have cy:=a2.2.2.2;rw[bW.2.2.1,L6] at cy;rw[<-cy];exact aR.2.2.sl (λb O hp=>⟨hp,O⟩) λb O hp=>⟨hp,O⟩
  .have bW:=bA hc cg bP b9;have cK:=yv cg;clear hc cg bP b9 cm;go_wp2_with(fail);refine(show Calls prog 62 #[.pointer (some ⟨g,0,none⟩),.string ⟨#[125]⟩] wr _ from cG [125] g A n c T j (deep+1) wr a2.1 false bW.1 (λh=>by cases h)).mono ?_;rintro e b4 ⟨rfl,be,hF⟩;have bY:=ah (show bG b4 g A n c T j (deep+1) from by simpa using be) hF;clear be hF a0 ak af;go_wp2_with(fail);refine(Gi g A n c T j (deep+1) b4 st bR bY.1 bW.2.1).mono ?_;rintro e cI ⟨q,a,b,bc,m,l,rfl,bX,be,hF⟩;have ay:Fr (λb=>b=g) wr cI:=bY.2.trans hF;have z:=a2.2.2.1.cS ay λb O _=>⟨ad,ad⟩
   have hd:=D.aK (cW:=ly (λb=>w.heap.size<=b) cI (.slice bH on bB)) (λb O=>⟨by have:=O.1;have:=bY.2.size;omega,O.2,λh=>by have:=(a2.2.2.1.lt h).2;have:=O.1;have:=bY.2.size;omega⟩) _ _ bX;have ci:w.heap.size<=cI.heap.size:=by have:=ay.size;omega
   have P:=bA be (a2.2.1.trans ay) z hd;clear be hF ay z hd bX bY;go_wp2_with(at_builtin;refine bI o2 rfl (.tmp 34) (.tmp 37) rfl P.2.2.1 P.2.2.2 rfl rfl rfl ad ad ci ?_;intro a1 bU cA an ay b1 cf;have ca:=ah an ay;clear an ay b1 cf);have bm:∀b,(Value.slice bH on bB).ownBlock=some b->w.heap.size<=b:=λb O=>(P.2.2.1.lt O).1;have aT:Fr (λb=>b=g) w cA:=P.2.1.eU (ca.2.below ci λk aj h=>by have:=bm k h;omega);have eV:=aA (P.1.on ca.2 λb O=>by have:=bm b O;omega) aT ca.1;clear bm aT ca P;go_roundw
   case rel=>exact⟨a1,on+1,bU,bR,f2,acc++[st],t,rfl,ad,eV.1,eV.2.1,by rw[LJ];exact eV.2.2,bW.2.2.1,by have:=a2.2.2.2;rw[bW.2.2.2] at this;rw[<-this];simp⟩
   case measure=>simp only[En];omega
def eN:List az->al
 | []=>.nil
 | .set v n e::l=>.set v n e (eN l)
 | .call g n aT::l=>.call g n aT (eN l)
 | .lock u r::l=>.lock u r (eN l)
 | .ite e th el::l=>.ite e th el (eN l)
 | .gG e th::l=>.gG e th (eN l)
 | .ret::l=>.ret (eN l)
theorem fR:∀l:List az,c7 (eN l)=l.map bg
 | []=>rfl
 | .set v n e::l=>by simp only[eN,c7,LI,bg,fR l]
 | .call g n aT::l=>by simp only[eN,c7,LI,bg,fR l]
 | .lock u r::l=>by simp only[eN,c7,LI,bg,fR l]
 | .ite e th el::l=>by simp only[eN,c7,LI,bg,fR l]
 | .gG e th::l=>by simp only[eN,c7,LI,bg,fR l]
 | .ret::l=>by simp only[eN,c7,LI,bg,fR l]
def kW(T:List Tok):Nat->Nat->Option (List bL×List aG)
 | 0,_=>none
 | f+1,k=>if tE 5 T k then some ([],[]) else match T[k+1]? with
  | none=>none
  | some t=>if t.kind=1 then
    if b3 [109,117,116,101,120] T k && !b3 [91] T (k+2) && b3 [59] T (k+2) && decide (k+3<T.length) then (kW T f (k+3)).map λq=>(⟨strOf t.text,false,0⟩::q.1,q.2)
    else if b3 [102,117,110,99] T k then
     (wK T (k+2)).bind λr=>if b3 [123] T (eQ (k+2) r) && decide (eQ (k+2) r+1<T.length) then (jS T 100 (eQ (k+2) r+1)).bind λs=>(kW T f s.2).map λq=>(q.1,⟨strOf t.text,r.map kx,eN s.1⟩::q.2) else none
    else none
   else none
theorem wY{ms:List bL}{fs:List aG}(h:kW T f k=some (ms,fs)):(tE 5 T k=true/\ms=[]/\fs=[])\/(tE 5 T k=false/\∃(t:Tok) (f2:Nat),T[k+1]?=some t/\t.kind=1/\
  ((∃cU,b3 [109,117,116,101,120] T k=true/\b3 [91] T (k+2)=false/\b3 [59] T (k+2)=true/\k+3<T.length/\kW T f2 (k+3)=some (cU,fs)/\ms=⟨strOf t.text,false,0⟩::cU)\/(∃r ls bR a6,b3 [102,117,110,99] T k=true/\yF T (k+2) r/\b3 [123] T (eQ (k+2) r)=true/\eQ (k+2) r+1<T.length/\jS T 100 (eQ (k+2) r+1)=some (ls,bR)/\kW T f2 bR=some (ms,a6)/\fs=⟨strOf t.text,r.map kx,eN ls⟩::a6))):=by
 cases f with
 | zero=>cases h
 | succ f=>
  unfold kW at h
  cases cy:tE 5 T k with
  | true=>
   rw[cy,if_pos rfl] at h;injection h with h;injection h with ac ax
   exact .inl ⟨rfl,ac.symm,ax.symm⟩
  | false=>
   rw[cy,if_neg (by simp)] at h;refine .inr ⟨rfl,?_⟩
   cases ht:T[k+1]? with
   | none=>rw[ht] at h;cases h
   | some t=>
    rw[ht] at h;simp only at h;split at h
    .rename_i bv;refine⟨t,f,rfl,bv,?_⟩;split at h
     .rename_i hc;simp only[LO,Bool.not_eq_true',Md] at hc
      cases hp:kW T f (k+3) with
      | none=>rw[hp] at h;cases h
      | some q=>
       rw[hp] at h;injection h with h;injection h with ac ax;refine .inl ⟨q.1,hc.1.1.1,hc.1.1.2,hc.1.2,hc.2,?_,ac.symm⟩;rw[<-ax]
     .split at h
      .rename_i hc
       cases hl:wK T (k+2) with
       | none=>rw[hl] at h;cases h
       | some r=>
        rw[hl] at h;simp only[Option.bind_some] at h;split at h
        .rename_i O;simp only[LO,Md] at O
         cases hs:jS T 100 (eQ (k+2) r+1) with
         | none=>rw[hs] at h;cases h
         | some s=>
          rw[hs] at h;simp only[Option.bind_some] at h
          cases hp:kW T f s.2 with
          | none=>rw[hp] at h;cases h
          | some q=>
           rw[hp] at h;injection h with h;injection h with ac ax;refine .inr ⟨r,s.1,s.2,q.2,hc,uD hl,O.1,O.2,hs,?_,ax.symm⟩;rw[<-ac];exact hp
        .cases h
      .cases h
    .cases h
theorem vj{T:List Tok}:∀(f k:Nat) (ls:List az) (F:Nat),jS T f k=some (ls,F)->k<F
 | 0,_,_,_,h=>by cases h
 | f+1,k,ls,F,h=>by
  simp only[jS] at h;split at h
  .split at h
   .injection h with h;injection h with _ h;omega
   .cases h
  .cases hs:tC T k with
   | none=>rw[hs] at h;cases h
   | some p=>
    rw[hs] at h;simp only[Option.bind_some] at h
    cases bv:jS T f p.2 with
    | none=>rw[bv] at h;cases h
    | some q=>
     rw[bv] at h;injection h with h;injection h with _ h;have ac:=vj f p.2 q.1 q.2 bv;have ax:=yv (show tC T k=some (p.1,p.2) from hs);omega
theorem HX:cm prog 68 137 (.agg #[.string ⟨#[]⟩,.slice none 0 0,.slice none 0 0]) 3 64:=cm.mk' Tryz.underlying68 (by kernel_rfl) rfl ad
theorem Fr.Hy{M M':Nat->Prop}{a b:World}(h:Fr M a b)(hM:∀k,k<a.heap.size->M k->M' k):Fr M' a b:=⟨h.os,h.tape,h.output,h.size,λk aj hn=>h.block k aj λhm=>hn (hM k aj hm)⟩
def EM(g:Nat)(w:World):Nat:=match w.cell? ⟨g,1,none⟩ with|some (.int _ z)=>z.toNat|_=>0
theorem bG.pos{w:World}{g:Nat}{A:Mk}{n c:Nat}{deep:Nat}(h:bG w g A n c T k deep):EM g w=k:=by
 unfold EM;rw[h.blk.cell];rfl
namespace Di
theorem dd{p:Prop}(h:p:=by
 generalize hX:World.setCell _ _ _=X;have bW:=ca.1;have b6:=cJ hX;have bC:ao X (g+1) 70 #[.slice none 0 0,.slice cD (mn+1) c3,.slice FA fn fc]:=hX▸ca.2.2.aJ 1 _;have aR:=aA bC b6 (bW.cS b6 λb O _=>ad);clear hX bW b6 bC bU aX a4;have P:=bi.on aR.2.1 λb O=>ad;have bK:=P.pos;have bF:=a2.2.2.2.2.2.2.2.2;have j:=ae P;clear P;go_roundw
 case rel=>
  have ct:Fr (λb=>b=g\/b=g+1) V X:=Fr.Hy (M:=λb=>(b=g\/b=g+1)\/(Value.slice MA mn mc).ownBlock=some b) (Fr.trans (Fr.trans (Fr.trans (Fr.mono a2.2.1 λ_ h=>.inl h) (Fr.mono ay.2 λ_ h=>.inl (.inl h))) (Fr.mono ca.2.1 λ_ h=>.inr h)) (Fr.mono aR.2.1 λ_ h=>.inl (.inr h))) λb O hm=>hm.elim id λhm=>absurd (a3.o b hm) ad
  iterate 101 apply Exists.intro
  refine⟨⟨k+3,f2,cD,mn+1,c3,FA,fn,fc,am++[⟨strOf t.text,false,0⟩],ci,aq,a6,j.o,ct,aR.1,by rw[LJ];exact aR.2.2,U.2.2.2.2.1,?_,a2.2.2.2.2.2.1,?_,a2.2.2.2.2.2.2.2.1⟩,rfl⟩
  .rw[<-a2.2.2.2.2.1,U.2.2.2.2.2];simp
  .rw[a2.2.2.2.2.2.2.1];simp
 case measure=>rw[bK,bF];have:=j.lt;omega
 ):p:=h
end Di
open Di in
theorem zl(s:ByteArray)(b o cap:Nat)(w:World)(ms:List bL)(fs:List aG)(br:Nat)(h:fw w b o cap s)(hs:s.size<=4000)(hn:(ez s.data.toList).1.length<=4001)(ai:0<(ez s.data.toList).1.length)(he:(ez s.data.toList).2.2=0)(hp:kW (ez s.data.toList).1 br 0=some (ms,fs))(bY:ms.length<=12)(cr:fs.length<=16) :
  Calls prog 31 #[.slice (some ⟨b,o,none⟩) s.size cap] w λe ab=>∃(MA:Mk) (mn mc:Nat) (FA:Mk) (fn fc:Nat) (z:Int),e=.returned (.tuple #[.agg #[.slice none 0 0,.slice MA mn mc,.slice FA fn fc],.int .i64 z,.int .i64 0])/\hP ab (fresh w ab) ⟨[],ms,fs⟩ none 0 MA mn FA fn/\mn<=mc/\fn<=fc/\Ext w ab:=by
 obtain⟨R,bz⟩:∃R,R=ez s.data.toList:=⟨_,rfl⟩
 rw[<-bz] at hn ai he hp;obtain⟨T,z,cQ⟩:=R;simp only at hn ai he hp;subst he;have H:=cX h hp bY cr bz;clear h hp bY cr bz;go_enter func31,ntmps31;go_upto_region 1 with(fail);generalize bd:World.alloc _ _=W;have aF:=aZ bd;have cB:=aN bd;have ag:=ah aF cB;have cS:=cB.lt;clear bd aF cB;go_wp2_with(fail);refine(show Calls prog 58 _ W (kD W (T,z,0)) by rw[H.2.2.2.2];exact yc s b o cap W (H.1.on ag.1) ad).mono ?_;rintro e aP ⟨A,n,c,rfl,aK,eW,bX⟩;have aL:Ext W aP:=Fr.of bX;have cu:n=T.length:=eW.1.symm;have cP:n<=4001:=by rw[cu];exact hn
 have cH:0<n:=by rw[cu];exact ai
 have H1:=aA aL eW cu;have cg:=aL.size;clear hn ai bX aL eW cu aK;go_upto_region 5 with(fail);generalize hV:World.alloc _ _=V;have bo:=hi hV;have bO:=fx hV;have bV:=eX hV;obtain⟨g,aY⟩:∃g,g=aP.heap.size:=⟨_,rfl⟩
 rw[<-aY] at bO bV ⊢;have bT:bG V g A n c T 0 0:=⟨bO,(H1.2.1.cS (Fr.ext bo) bo.size).fH (Below.refl _ _) |> λh=>by
  rw[aY];exact H1.2.1.fH (Fr.ext bo),cH,cP⟩
 have cc:=bA bT bV bo aY;have b2:=bV.lt;have ef:W.heap.size<=g:=ad;clear hV bo bO bV bT aY;go_wp2_with(fail);go_loopw [78] (λ_ wr=>∃(k br:Nat) (MA:Mk) (mn mc:Nat) (FA:Mk) (fn fc:Nat) (am cU:List bL) (aq a6:List aG),bG wr g A n c T k 0/\Fr (λb=>b=g\/b=g+1) V wr/\ao wr (g+1) 70 #[.slice none 0 0,.slice MA mn mc,.slice FA fn fc]/\lL V.heap.size 131 3 137 3 wr MA mn mc (am.map eC) FA fn fc (aq.map dy)/\kW T br k=some (cU,a6)/\am++cU=ms/\aq++a6=fs/\mn=am.length/\fn=aq.length) (λ_ wr=>4001 - EM g wr)
 case atStart=>exact⟨0,br,none,0,0,none,0,0,[],ms,[],fs,cc.1,Mg,cc.2.1,lL.nil _ _ _ _ _ _,H.2.1,rfl,rfl,rfl,rfl⟩
 case round=>
  obtain⟨k,cM,MA,mn,mc,FA,fn,fc,am,cU,aq,a6,be,hF,aS,hG,cO,aJ,aH,dQ,bl⟩:=hrel;have a7:=be.lt;have bY:am.length+cU.length<=12:=by have:=H.2.2.1;rw[<-aJ,LD] at this;exact this
  have cr:aq.length+a6.length<=16:=by have:=H.2.2.2.1;rw[<-aH,LD] at this;exact this
  have u:=be.pos;have a2:=xH be hF aS hG aJ aH dQ bl u;have dL:=hF.size;obtain⟨a0,ak,af⟩:=be.blk.two;rcases wY cO with⟨cy,b9,de⟩|⟨cy,t,f2,ht,bv,cn⟩
  .have bS:=aA cy b9 de;clear cy b9 de be hF aS hG aJ aH cO bY cr dQ bl u;go_wp2_with(fail);refine(pw 5 g A n c T k 0 wr a2.1).mono ?_;rintro e aW ⟨rfl,aT⟩;rw[bS.1];have bZ:=ae aT;clear a0 ak af;obtain⟨a0,ak,af⟩:=(a2.1.blk.aj aT).two;obtain⟨bU,aX,a4⟩:=(a2.2.2.1.aj aT).two;have aa:Ext W aW:=Fr.low (M:=λb=>b=g\/b=g+1) (Fr.trans (Fr.mono (H1.1.trans cc.2.2.1) λ_ h=>h.elim) (Fr.trans a2.2.1 (Fr.mono aT λ_ h=>h.elim))) λb O=>ad;have an:=ag.2.aj aa;have S:=ah an (ag.1.trans aa);obtain⟨bp,aM,aV⟩:=an.two;have bP:=aT.size;clear aT aa an;go_wp2_with(fail);generalize hX:World.setCell _ _ _=Z;obtain⟨bt,ba,bf⟩:=bs (w:=w) [.slice none 0 0,.slice MA mn mc,.slice FA fn fc] (by rfl) S.1 S.2 ad hX;have bh:=ah ba bf;clear hX ba bf bp aM aV a0 ak af bU aX a4;obtain⟨bp,aM,aV⟩:=bt.two;refine Mf (v:=.tuple #[.agg #[.slice none 0 0,.slice MA mn mc,.slice FA fn fc],.int .i64 z,.int .i64 0]) (by simp[results,Tryz.results31,go_sem,bp]) rfl ?_;have hm:am=ms:=by have:=a2.2.2.2.2.1;rw[bS.2.1,L6] at this;exact this
   have J:aq=fs:=by have:=a2.2.2.2.2.2.1;rw[bS.2.2,L6] at this;exact this
   have bk:=a2.2.2.2.1.aj bZ.o;have cT:=bh.2.size;have dx:=bk.cS bh.2 λb O _=>by have:=cc.2.2.1.size;omega
   rw[hm,J] at dx;have dj:=cc.2.2.1.size;exact⟨MA,mn,mc,FA,fn,fc,z,rfl,⟨Sl.bT _,dx.one.sl (λb ac ax=>⟨by have:=ax.1;omega,ac⟩) (λb ac ax=>⟨ad,ac⟩),dx.two.sl (λb ac ax=>⟨by have:=ax.1;omega,ac⟩) (λb ac ax=>⟨ad,ac⟩)⟩,dx.one.cap.1,dx.two.cap.1,bh.1⟩
  .rcases cn with⟨ci,c6,cY,c5,aD,cL,cj⟩|⟨r,ls,bR,ch,c6,cY,aD,cL,cj,eg,co⟩
   ·
    have cm:T.length<=n:=Nat.le_of_eq H1.2.2.symm;have cf:cU.length=ci.length+1:=by rw[cj];rfl
    have cd:mn<=11:=ad;have cw:((mn:Int) == 12)=false:=by simp;omega
    have ew:k+3<n:=ad;have cl:=ae cy;have Q:=aA c6 (show b3 [118,97,114] T k=false from fu c6 (by decide)) (show b3 [102,117,110,99] T k=false from fu c6 (by decide));have U:=dI ht bv cY c5 cL cj;clear be hF aS hG aJ aH cO dQ bl u cy c6 cY c5 aD cL cj ht bv cf bY cr;have bu:g+1≠g:=ad;go_wp2_with(fail);refine(pw 5 g A n c T k 0 wr a2.1).mono ?_;rintro e v0 ⟨rfl,aT⟩;rw[cl.o];have bj:=ah (a2.1.aj aT) (aT.mono (M':=λb=>b=g) λ_ h=>h.elim);clear aT a0 ak af;go_wp2_with(fail);refine(show Calls prog 60 #[.pointer (some ⟨g,0,none⟩),.string ⟨#[118,97,114]⟩] v0 _ from lV [118,97,114] g A n c T (k) 0 v0 bj.1).mono ?_;rintro e v1 ⟨rfl,aF⟩;rw[Q.2.1];have bE:=ah (bj.1.aj aF) (bj.2.trans (aF.mono (M':=λb=>b=g) λ_ h=>h.elim));clear aF;go_wp2_with(fail);refine(show Calls prog 60 #[.pointer (some ⟨g,0,none⟩),.string ⟨#[109,117,116,101,120]⟩] v1 _ from lV [109,117,116,101,120] g A n c T (k) 0 v1 bE.1).mono ?_;rintro e v2 ⟨rfl,aF⟩;rw[Q.1];have az:=ah (bE.1.aj aF) (bE.2.trans (aF.mono (M':=λb=>b=g) λ_ h=>h.elim));clear aF;go_wp2_with(fail);refine(show Calls prog 60 #[.pointer (some ⟨g,0,none⟩),.string ⟨#[102,117,110,99]⟩] v2 _ from lV [102,117,110,99] g A n c T (k) 0 v2 az.1).mono ?_;rintro e bx ⟨rfl,aF⟩;rw[Q.2.2];have a5:=ah (az.1.aj aF) (az.2.trans (aF.mono (M':=λb=>b=g) λ_ h=>h.elim));clear aF;obtain⟨bU,aX,a4⟩:=(a2.2.2.1.on a5.2 ad).two;go_wp2_with(fail)
    refine(show Calls prog 62 #[.pointer (some ⟨g,0,none⟩),.string ⟨#[118,97,114]⟩] bx _ from cG [118,97,114] g A n c T (k) 0 bx a5.1 false Q.2.1 (λh=>by cases h)).mono ?_;rintro e v4 ⟨rfl,be,hF⟩;have bN:=ah (show bG v4 g A n c T (k) 0 from by simpa using be) (a5.2.trans hF);clear be hF;clear bU aX a4;go_wp2_with(fail);refine(show Calls prog 62 #[.pointer (some ⟨g,0,none⟩),.string ⟨#[109,117,116,101,120]⟩] v4 _ from cG [109,117,116,101,120] g A n c T (k) 0 v4 bN.1 true Q.1 (λ_=>ad)).mono ?_;rintro e bn ⟨rfl,be,hF⟩;have bQ:=ah (show bG bn g A n c T (k+1) 0 from by simpa using be) (bN.2.trans hF);clear be hF;obtain⟨bU,aX,a4⟩:=(a2.2.2.1.on bQ.2 ad).two;go_upto_region 13 with(fail);refine eK (λb=>b=g) [(0,3),(1,0),(2,3),(3,1),(4,1),(5,2),(6,3),(7,2)] ?_;refine pf ?_;refine oG ?_;refine pf ?_;refine aI rfl (λK hK=>?_);go_simp;refine(ES g A n c T (k+1) 0 bn.drew t (bQ.1.aj (Fr.refl _ bn).drew) U.1 U.2.1 U.2.2.1 U.2.2.2.1 ew).mono ?_;rintro e v6 ⟨rfl,be,hF⟩;have ay:=ah (show bG v6 g A n c T (k+3) 0 from be) (bQ.2.trans (Fr.aF hF));refine dP hK (hF) ?_;clear hK K;clear be hF bU aX a4;refine ry ?_;have b7:=a2.2.2.2.1.cS ay.2 λb O _=>ad;have bD:=ay.2.size;have aQ:=ae b7;have cE:=a2.2.2.1.on ay.2 bu;have b4:=ae cE;clear b7 cE;refine au rfl (λK hK=>?_);rw[if_pos (by rfl)];refine q8 l7 (.tmp 92) (.tmp 95) (by rfl) aQ.one (d:=eC ⟨strOf t.text,false,0⟩) (cs:=#[.string (strOf t.text),.bool false,.int .i64 0]) (fq.2 rfl) (by rfl) (by rfl) (by rfl) ad ad ad ?_
    intro cD c3 bJ ce g2 cN cZ;have bm:∀b,(Value.slice MA mn mc).ownBlock=some b->V.heap.size<=b:=λb O=>(aQ.one.lt O).1;have ca:=aA (aQ.grow ce g2 cN) g2 (b4.on g2 λO=>by have:=bm _ O;omega);have bi:=ae (ay.1.on g2 λb O=>by have:=bm b O;omega);have a3:=ae bm;obtain⟨bU,aX,a4⟩:=ca.2.2.two;clear ce g2 cN cZ bm;refine dU hK ?_;clear hK K;refine pf ?_;exact eM
   ·
    have cm:T.length<=n:=Nat.le_of_eq H1.2.2.symm;have cf:a6.length=ch.length+1:=by rw[co];rfl
    have cA:fn<=15:=ad;have cv:((fn:Int) == 16)=false:=by simp;omega
    have he:k+4<=eQ (k+2) r:=yf _ _;have aO:eQ (k+2) r+1<n:=ad;have cK:=vj _ _ _ _ cj;have cl:=ae cy;have Q:=bA c6 (show b3 [118,97,114] T k=false from fu c6 (by decide)) (show b3 [109,117,116,101,120] T k=false from fu c6 (by decide)) (show b3 [114,109,117,116,101,120] T k=false from fu c6 (by decide));have U:=hj ht bv cY aD cj eg co;clear be hF aS hG aJ aH cO dQ bl u cy c6 cY aD cL cj eg co ht bv cf bY cr;have bu:g+1≠g:=ad;go_wp2_with(fail);refine(pw 5 g A n c T k 0 wr a2.1).mono ?_;rintro e v0 ⟨rfl,aT⟩;rw[cl.o];have bj:=ah (a2.1.aj aT) (aT.mono (M':=λb=>b=g) λ_ h=>h.elim);clear aT a0 ak af;go_wp2_with(fail);refine(show Calls prog 60 #[.pointer (some ⟨g,0,none⟩),.string ⟨#[118,97,114]⟩] v0 _ from lV [118,97,114] g A n c T (k) 0 v0 bj.1).mono ?_;rintro e v1 ⟨rfl,aF⟩;rw[Q.2.1];have bE:=ah (bj.1.aj aF) (bj.2.trans (aF.mono (M':=λb=>b=g) λ_ h=>h.elim));clear aF;go_wp2_with(fail);refine(show Calls prog 60 #[.pointer (some ⟨g,0,none⟩),.string ⟨#[109,117,116,101,120]⟩] v1 _ from lV [109,117,116,101,120] g A n c T (k) 0 v1 bE.1).mono ?_;rintro e v2 ⟨rfl,aF⟩;rw[Q.2.2.1];have az:=ah (bE.1.aj aF) (bE.2.trans (aF.mono (M':=λb=>b=g) λ_ h=>h.elim));clear aF;go_wp2_with(fail);refine(show Calls prog 60 #[.pointer (some ⟨g,0,none⟩),.string ⟨#[114,109,117,116,101,120]⟩] v2 _ from lV [114,109,117,116,101,120] g A n c T (k) 0 v2 az.1).mono ?_;rintro e bx ⟨rfl,aF⟩;rw[Q.2.2.2];have a5:=ah (az.1.aj aF) (az.2.trans (aF.mono (M':=λb=>b=g) λ_ h=>h.elim))
    clear aF;go_wp2_with(fail);refine(show Calls prog 60 #[.pointer (some ⟨g,0,none⟩),.string ⟨#[102,117,110,99]⟩] bx _ from lV [102,117,110,99] g A n c T (k) 0 bx a5.1).mono ?_;rintro e v4 ⟨rfl,aF⟩;rw[Q.1];have bN:=ah (a5.1.aj aF) (a5.2.trans (aF.mono (M':=λb=>b=g) λ_ h=>h.elim));clear aF;obtain⟨bU,aX,a4⟩:=(a2.2.2.1.on bN.2 ad).two;go_wp2_with(fail);refine(show Calls prog 62 #[.pointer (some ⟨g,0,none⟩),.string ⟨#[118,97,114]⟩] v4 _ from cG [118,97,114] g A n c T (k) 0 v4 bN.1 false Q.2.1 (λh=>by cases h)).mono ?_;rintro e bn ⟨rfl,be,hF⟩;have bQ:=ah (show bG bn g A n c T (k) 0 from by simpa using be) (bN.2.trans hF);clear be hF;clear bU aX a4;go_wp2_with(fail);refine(show Calls prog 62 #[.pointer (some ⟨g,0,none⟩),.string ⟨#[109,117,116,101,120]⟩] bn _ from cG [109,117,116,101,120] g A n c T (k) 0 bn bQ.1 false Q.2.2.1 (λh=>by cases h)).mono ?_;rintro e v6 ⟨rfl,be,hF⟩;have ay:=ah (show bG v6 g A n c T (k) 0 from by simpa using be) (bQ.2.trans hF);clear be hF;go_wp2_with(fail);refine(show Calls prog 62 #[.pointer (some ⟨g,0,none⟩),.string ⟨#[114,109,117,116,101,120]⟩] v6 _ from cG [114,109,117,116,101,120] g A n c T (k) 0 v6 ay.1 false Q.2.2.2 (λh=>by cases h)).mono ?_;rintro e bJ ⟨rfl,be,hF⟩;have cp:=ah (show bG bJ g A n c T (k) 0 from by simpa using be) (ay.2.trans hF);clear be hF;go_wp2_with(fail)
    refine(show Calls prog 62 #[.pointer (some ⟨g,0,none⟩),.string ⟨#[102,117,110,99]⟩] bJ _ from cG [102,117,110,99] g A n c T (k) 0 bJ cp.1 true Q.1 (λ_=>ad)).mono ?_;rintro e a9 ⟨rfl,be,hF⟩;have cq:=ah (show bG a9 g A n c T (k+1) 0 from by simpa using be) (cp.2.trans hF);clear be hF;go_wp2_with(fail);refine(m4 g A n c T (k+1) 0 a9 t cq.1 U.1 U.2.1 ad).mono ?_;rintro e bq ⟨rfl,be,hF⟩;have ck:=ah (show bG bq g A n c T (k+2) 0 from be) (cq.2.trans hF);have cF:=ck.2.size;clear be hF;go_upto_region 18 with(fail);generalize hX:World.alloc _ _=Z;have ba:=aZ hX;have L:=aN hX;have a1:=aA (ck.1.aj ba) (ck.2.trans (ba.mono (M':=λb=>b=g) λ_ h=>h.elim)) L;have hQ:g<bq.heap.size:=ck.1.blk.lt;clear hX ba L;go_wp2_with(fail);refine(wZ g A n c T (k+2) 0 r Z a1.1 U.2.2.1 ad).mono ?_;rintro e v11 ⟨bc,m,l,rfl,hm,be,hF,bw⟩;have L:=a1.2.2.on hF ad;have bM:bq.heap.size<Z.heap.size:=a1.2.2.lt;have ap:=cX be (a1.2.1.trans hF) L hm (bw.mono (cW:=λb=>bq.heap.size<b/\b<v11.heap.size) λb O=>⟨by have:=O.1;omega,O.2⟩);obtain⟨b1,y,al⟩:=L.two;clear be hF L hm bw bM;go_upto_region 19 with(fail);generalize hX:World.setCell _ _ _=Y;have ar:=cJ hX;have L:ao Y bq.heap.size 137 #[.string (strOf t.text),.slice bc m l,.slice none 0 0]:=hX▸ap.2.2.1.aJ 1 (.slice bc m l);have bw:=(ap.2.2.2.2.ak λb O=>ar.block b O.2 (aB O.1)).mono (cW:=λb=>bq.heap.size<b/\b<Y.heap.size) λb O=>⟨O.1,by have:=O.2;have:=ar.size;omega⟩
    have av:=cX (ap.1.on ar λb O=>ad) (ap.2.1.eU (ar.below ap.2.1.size λk aj h=>ad)) L ap.2.2.2.1 bw;have cx:bq.heap.size<Y.heap.size:=L.lt;clear hX ar L b1 y al bw;go_wp2_with(fail);refine(ER g A n c T (eQ (k+2) r) 0 Y 100 ls bR av.1 ad U.2.2.2.1 ad U.2.2.2.2.1).mono ?_;rintro e aw ⟨bH,on,bB,rfl,b8,cb,be,hF⟩;have L:=av.2.2.1.on hF ad;have bw:=(av.2.2.2.2.ak λb O=>hF.block b O.2 (aB O.1)).mono (cW:=λb=>bq.heap.size<b/\b<aw.heap.size) λb O=>⟨O.1,by have:=O.2;have:=hF.size;omega⟩
    have N:=hj be (av.2.1.trans hF) L b8 cb av.2.2.2.1 bw;have cC:=hF.size;obtain⟨b1,y,al⟩:=L.two;clear be hF L b8 cb bw;go_upto_region 20 with(fail);generalize hX:World.setCell _ _ _=g7;have ar:=cJ hX;have L:ao g7 bq.heap.size 137 #[.string (strOf t.text),.slice bc m l,.slice bH on bB]:=hX▸N.2.2.1.aJ 2 (.slice bH on bB);have aE:Fr (λb=>b=g) wr g7:=N.2.1.eU (ar.below N.2.1.size λk aj h=>ad);have b7:=a2.2.2.2.1.cS aE λb O _=>ad;have bD:=aE.size;have cI:=ar.size;have b0:Sl g7 (fresh Y aw) bH on (ls.map bg):=N.2.2.2.2.1.ak λb O=>ar.block b O.2 (aB O.1);have bb:∀b,(Value.slice MA mn mc).ownBlock=some b->b<wr.heap.size:=λb O=>(a2.2.2.2.1.one.lt O).2;have aU:∀b,(Value.slice FA fn fc).ownBlock=some b->b<wr.heap.size:=λb O=>(a2.2.2.2.1.two.lt O).2;have a8:Sl g7 (λb=>bq.heap.size<b/\b<aw.heap.size) bc m ((r.map kx).map cz):=N.2.2.2.2.2.2.ak λb O=>ar.block b O.2 (aB O.1);have b5:(dy ⟨strOf t.text,r.map kx,eN ls⟩).rep g7 (ly (λb=>V.heap.size<=b/\(Value.slice MA mn mc).ownBlock≠some b) g7 (.slice FA fn fc)) [.string (strOf t.text),.slice bc m l,.slice bH on bB]:=
     lh.2 ⟨bc,m,l,bH,on,bB,rfl,N.2.2.2.2.2.1,N.2.2.2.1,a8.mono λb O=>⟨⟨by have:=O.1;omega,λh=>by have:=bb b h;have:=O.1;omega⟩,by have:=O.2;omega,λh=>by have:=aU b h;have:=O.1;omega⟩,by rw[fR];exact b0.mono λb O=>⟨⟨by have:=O.1;omega,λh=>by have:=bb b h;have:=O.1;omega⟩,by have:=O.2;omega,λh=>by have:=aU b h;have:=O.1;omega⟩⟩
    have aQ:=ah b7 b5;have cE:=a2.2.2.1.on aE bu;have b4:=ae cE;have ay:=ah (N.1.on ar λb O=>ad) aE;clear hX ar aE b7 b0 a8 bb aU b5 b1 y al;obtain⟨b1,y,al⟩:=L.two;obtain⟨bU,aX,a4⟩:=cE.two;clear L cE;go_wp2_with(at_builtin;refine bI HX rfl (.tmp 121) (.tmp 123) rfl aQ.1.two (d:=dy ⟨strOf t.text,r.map kx,eN ls⟩) (cs:=#[.string (strOf t.text),.slice bc m l,.slice bH on bB]) aQ.2 rfl rfl rfl ad ad ad ?_;intro cD c3 bJ ce g2 cN cZ;have bm:∀b,(Value.slice FA fn fc).ownBlock=some b->V.heap.size<=b:=λb O=>(aQ.1.two.lt O).1;have ca:=aA ((aQ.1.swap.grow ce g2 cN).swap) g2 (b4.on g2 λO=>by have:=bm _ O;omega);have bi:=ae (ay.1.on g2 λb O=>by have:=bm b O;omega);have a3:=ae bm;clear bU aX a4 b1 y al;obtain⟨bU,aX,a4⟩:=ca.2.2.two;clear ce g2 cN cZ bm);generalize hX:World.setCell _ _ _=X;have bW:=ca.1;have b6:=cJ hX;have bC:ao X (g+1) 70 #[.slice none 0 0,.slice MA mn mc,.slice cD (fn+1) c3]:=hX▸ca.2.2.aJ 2 _;have aR:=aA bC b6 (bW.cS b6 λb O _=>ad);clear hX bW b6 bC bU aX a4;have P:=bi.on aR.2.1 λb O=>ad;have bK:=P.pos;have bF:=a2.2.2.2.2.2.2.2.2;have j:=ae P;clear P;go_roundw
    case rel=>
     have ct:Fr (λb=>b=g\/b=g+1) V X:=Fr.Hy (M:=λb=>(b=g\/b=g+1)\/(Value.slice FA fn fc).ownBlock=some b) (Fr.trans (Fr.trans (Fr.trans (Fr.mono a2.2.1 λ_ h=>.inl h) (Fr.mono ay.2 λ_ h=>.inl (.inl h))) (Fr.mono ca.2.1 λ_ h=>.inr h)) (Fr.mono aR.2.1 λ_ h=>.inl (.inr h))) λb O hm=>hm.elim id λhm=>absurd (a3.o b hm) ad;refine⟨bR,f2,MA,mn,mc,cD,fn+1,c3,am,cU,aq++[⟨strOf t.text,r.map kx,eN ls⟩],ch,j.o,ct,aR.1,by rw[LJ];exact aR.2.2,U.2.2.2.2.2.1,a2.2.2.2.2.1,?_,a2.2.2.2.2.2.2.1,?_⟩
     .rw[<-a2.2.2.2.2.2.1,U.2.2.2.2.2.2];simp
     .rw[a2.2.2.2.2.2.2.2.1];simp
    case measure=>rw[bK,bF];have:=j.lt;omega
end Go.Proofs.YtflecliffjbleaaGreat
