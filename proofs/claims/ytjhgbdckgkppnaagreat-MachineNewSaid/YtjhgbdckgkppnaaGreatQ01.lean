/- Part 1 of the proof (scripts that recur), without conditions of its own. -/
import Derived.BigQuiet
import Derived.Deep.Cut
import Derived.Deep.DrawnRows
import Derived.Deep.Draws
import Derived.Deep.QuietTactic
import Derived.Deep.RegionHeld3
import Derived.Handy
import Derived.IntWalk
import Derived.Laws.CopyOwn
import Derived.Laws.IdiomStrings
import Derived.Laws.StructEq
import Derived.Lib.Bytes
import Derived.Lib.SlBytesRow
import Derived.Maps.AppendAt
import Derived.OrdersHeld
import Derived.RegionTactic
import Derived.StillTail
import Derived.Test.YtjhgbdckgkppnaaGreatRows
import Derived.WalkKit
import Derived.WalkLawsBesides
import Derived.WalkSpells
import Derived.Test.YtjhgbdckgkppnaaGreatQ00
namespace Go.Proofs.YtjhgbdckgkppnaaGreat
open Go.RowKit Go.Proofs.Tryz
set_option maxRecDepth 1000000
set_option maxHeartbeats 25600000
set_option linter.unusedVariables false
theorem Gb:type_of% @Nat.le_refl:=@Nat.le_refl
theorem Gc:type_of% @Nat.lt_of_lt_of_le:=@Nat.lt_of_lt_of_le
theorem Gd:type_of% @List.length_append:=@List.length_append
theorem Ge:type_of% @List.mem_of_getElem?:=@List.mem_of_getElem?
theorem Gf:type_of% @List.length_map:=@List.length_map
theorem Gg:type_of% @Int.eq_ofNat_of_zero_le:=@Int.eq_ofNat_of_zero_le
theorem Gh:type_of% @List.map_cons:=@List.map_cons
theorem Gi:type_of% @List.map_append:=@List.map_append
theorem Gj:type_of% @List.take_of_length_le:=@List.take_of_length_le
theorem Gk:type_of% @List.mem_append:=@List.mem_append
theorem Gl:type_of% @Nat.add_zero:=@Nat.add_zero
theorem Gm:type_of% @List.length_singleton:=@List.length_singleton
theorem Gn:type_of% @Bool.and_eq_true:=@Bool.and_eq_true
theorem Gp:type_of% @List.length_cons:=@List.length_cons
theorem Gq:type_of% @List.append_assoc:=@List.append_assoc
theorem Gs:type_of% @List.cons_append:=@List.cons_append
theorem Gt:type_of% @List.mem_cons:=@List.mem_cons
theorem Gu:type_of% @Nat.le_trans:=@Nat.le_trans
theorem Gv:type_of% @Nat.zero_add:=@Nat.zero_add
theorem Gw:type_of% @List.length_nil:=@List.length_nil
theorem Gx:type_of% @List.flatMap_cons:=@List.flatMap_cons
theorem Gy:type_of% @Int.toNat_natCast:=@Int.toNat_natCast
theorem Gz:type_of% @Nat.zero_le:=@Nat.zero_le
theorem GC:type_of% @List.map_nil:=@List.map_nil
theorem GD:type_of% @List.mem_map:=@List.mem_map
theorem GF:type_of% @List.append_nil:=@List.append_nil
theorem GG:type_of% @List.nil_append:=@List.nil_append
theorem GH:type_of% @List.mem_singleton:=@List.mem_singleton
theorem GI:type_of% @Option.some.injEq:=@Option.some.injEq
theorem GJ:type_of% @List.drop_eq_nil_of_le:=@List.drop_eq_nil_of_le
theorem GK:type_of% @decide_eq_true_eq:=@decide_eq_true_eq
theorem GL:type_of% @Bool.false_eq_true:=@Bool.false_eq_true
theorem GM:type_of% @bodyPost_ret:=@bodyPost_ret
theorem GN{M:Nat→Prop}{w:World}:Fr M w w:=Fr.refl _ _
theorem GO{w:World}{t:TypeId}{cs:Array Value}:ag (w.alloc (.cells cs t)) w.heap.size t cs:=ag.new _ _ _
theorem ad{p:Prop}(h:p:=by omega):p:=h
theorem aB{p q:Prop}(x:q)(h:q→p:=by intro this;omega):p:=h x
theorem kk{p q r:Prop}(x:q)(y:r)(h:q→r→p:=by intro this this;omega):p:=h x y
theorem ai{A B:Prop}(a:A)(b:B):GU (A∧B):=ae ⟨a,b⟩
theorem aK{A B C:Prop}(a:A)(b:B)(c:C):GU (A∧B∧C):=ae ⟨a,b,c⟩
theorem bO{A B C D:Prop}(a:A)(b:B)(c:C)(d:D):GU (A∧B∧C∧D):=ae ⟨a,b,c,d⟩
theorem cA{A B C D E:Prop}(a:A)(b:B)(c:C)(d:D)(e:E):GU (A∧B∧C∧D∧E):=ae ⟨a,b,c,d,e⟩
theorem dz{A B C D E F:Prop}(a:A)(b:B)(c:C)(d:D)(e:E)(f:F):GU (A∧B∧C∧D∧E∧F):=ae ⟨a,b,c,d,e,f⟩
theorem gK{A B C D E F G:Prop}(a:A)(b:B)(c:C)(d:D)(e:E)(f:F)(g:G):GU (A∧B∧C∧D∧E∧F∧G):=ae ⟨a,b,c,d,e,f,g⟩
theorem nw{A B C D E F G H:Prop}(a:A)(b:B)(c:C)(d:D)(e:E)(f:F)(g:G)(h:H):GU (A∧B∧C∧D∧E∧F∧G∧H):=ae ⟨a,b,c,d,e,f,g,h⟩
theorem ub{A B C D E F G H I:Prop}(a:A)(b:B)(c:C)(d:D)(e:E)(f:F)(g:G)(h:H)(i:I):GU (A∧B∧C∧D∧E∧F∧G∧H∧I):=ae ⟨a,b,c,d,e,f,g,h,i⟩
theorem CR{A B C D E F G H I J:Prop}(a:A)(b:B)(c:C)(d:D)(e:E)(f:F)(g:G)(h:H)(i:I)(j:J):GU (A∧B∧C∧D∧E∧F∧G∧H∧I∧J):=ae ⟨a,b,c,d,e,f,g,h,i,j⟩
theorem y2{p:Prop}(h:p:=by
 have c6:=bs;go_wp2_with (fail);refine(lJ ⟨s,wb,bN,bG,bq,sl,GA,gn,gc,MA,mn,mc,FA,fn,fc,M,F,ar⟩ L be o ba u bc ps QA ch qc bP wr (c6.1.wr aF.1) ((Sl.cZ aF.2.2.2.2.1 c6.1.fr).mono fun b O=>⟨O.1,fun h=>O.2 (.inl h)⟩) ad ((Sl.cZ aF.2.2.1 c6.1.fr).mono fun b O=>⟨O.1,fun h=>O.2 (.inl h)⟩) bu).mono ?_;rintro e aQ ⟨r,IA,i,ic,rfl,aJ,Z,aa,aC,t⟩;simp only at aJ aC t;have bl:S.heap.size<wr.heap.size:=c6.2.2.lt;have l:=c6.2.2.on t ad;have aO:=c6.2.1.on t ad;have aZ:=gK (c6.1.next a2 aC t) l aO (aJ (F.map fun f=>(f.name,f.params))) Z aa t.size;clear a0 al af a7 am aE a6 aL aP aJ Z aa aC t aO;obtain⟨a6,aL,aP⟩:=l.two;clear l;go_upto_region 10 with(fail);generalize ah:World.setCell _ _ _=X;have aw:Fr (fun b=>b=S.heap.size) aQ X:=ah▸((Fr.refl (fun b=>b=S.heap.size) aQ).setCell (.inl rfl) _).setCell (.inl rfl) _;have bz:ag X S.heap.size 175 #[.int .i64 5,.string ⟨#[]⟩,.int .i64 0,.int .i64 0,.string ⟨#[]⟩,.slice none 0 0,.string r.name,.slice IA i ic,.slice none 0 0,.slice none 0 0,.slice none 0 0]:=ah▸(aZ.2.1.aH 6 _).aH 7 _;have cv:Sl X (fresh wr X) IA i (r.idx.toList.map a4):=(aZ.2.2.2.2.2.1.ao fun b O=>aw.block b O.2 (aB O.1)).mono fun b O=>⟨O.1,by have:=O.2;have:=aw.size;omega⟩
 have aU:=cA (aZ.1.fresh aF.1 aw fun b O=>ad) bz (aZ.2.2.1.on aw ad) cv (by have:=aw.size;have:=aZ.2.2.2.2.2.2;omega:wr.heap.size≤X.heap.size);clear ah a6 aL aP aw bz cv;obtain⟨a6,aL,aP⟩:=aU.2.1.two;go_upto_region 11 with(fail);generalize hU:World.alloc _ _=U;have ab:Ext X U:=hU▸GN.alloc _;have bx:ag U X.heap.size 175 #[.int .i64 6,.string ⟨#[]⟩,.int .i64 0,.int .i64 0,.string ⟨#[]⟩,.slice none 0 0,.string r.name,.slice IA i ic,.slice none 0 0,.slice none 0 0,.slice none 0 0]:=hU▸GO;have a1:=aU.1.al a2 ab;have b2:Gr (fun b=>(B≤b∧(Value.slice o ba u).ownBlock≠some b)∧b≠S.heap.size) B 175 11 U au on bj (ls.map aW):=(aF.2.2.2.1.two.mono fun b ac J=>⟨J,ad⟩).cZ a1.fr fun b O hl=>⟨fun h=>by have:=aF.2.2.2.2.2 b O;have:=h.1.1;omega,aF.2.2.2.2.2 b O⟩
 have a8:Gr (fun _=>False) B 9 1 U o ba u (be.map D.s):=(Gr.strs aF.2.2.2.1.one).cZ a1.fr fun b O hl=>⟨fun h=>h,aF.2.2.2.2.2 b O⟩
 have j:∀b,(Value.slice o ba u).ownBlock=some b→b<S.heap.size:=fun b O=>(aF.2.2.2.1.one.lt O).2;have m:∀b,(Value.slice au on bj).ownBlock=some b→B≤b∧b<S.heap.size:=fun b O=>aF.2.2.2.1.two.lt O;have ax:∀b,(Value.slice o ba u).ownBlock=some b→(Value.slice au on bj).ownBlock≠some b:=aF.2.2.2.1.ne;have cO:X.heap.size<U.heap.size:=bx.lt;have cM:wr.heap.size≤X.heap.size:=aU.2.2.2.2;have bU:Sl U (fun b=>wr.heap.size≤b∧b<X.heap.size) IA i (r.idx.toList.map a4):=aU.2.2.2.1.ao fun b O=>ab.block b O.2 fun h=>h;have hD:(aW (.lock false r)).rep U (j2 (fun b=>(B≤b∧(Value.slice o ba u).ownBlock≠some b)∧b≠S.heap.size) U (.slice au on bj)) [.int .i64 5,.string ⟨#[]⟩,.int .i64 0,.int .i64 0,.string ⟨#[]⟩,.slice none 0 0,.string r.name,.slice IA i ic,.slice none 0 0,.slice none 0 0,.slice none 0 0]:=by
  exact xS
 have cn:=nw a1 (aU.2.1.al ab) (aU.2.2.1.al ab) bx b2 a8 bU hD;have aV:=aK j m ax;have cf:B≤U.heap.size:=ad;have bY:B≤X.heap.size:=ad;clear hU ab bx a1 b2 a8 bU hD j m ax a6 aL aP;obtain⟨a6,aL,aP⟩:=cn.2.1.two;obtain⟨a7,am,aE⟩:=cn.2.2.1.two;go_upto_region 12 with(at_builtin;refine bS jQ rfl (.tmp 59) (.tmp 61) rfl cn.2.2.2.2.1 cn.2.2.2.2.2.2.2 rfl rfl rfl ad ad cf ?_;intro bO av bJ an aq b3 ce;have az:=aK an aq b3;clear an aq b3 ce a6 aL aP);obtain⟨bo,P,bV⟩:=az.o;obtain⟨j,m,ax⟩:=aV.o;have cF:W.heap.size<B:=ad;have aY:¬(Value.slice au on bj).ownBlock=some X.heap.size:=fun h=>by have:=(m _ h).2;omega
 have bf:¬(Value.slice au on bj).ownBlock=some S.heap.size:=fun h=>by have:=(m _ h).2;omega
 have aI:¬(Value.slice au on bj).ownBlock=some b1:=fun h=>by have:=(m _ h).1;omega
 have aR:mf ⟨s,wb,bN,bG,bq,sl,GA,gn,gc,MA,mn,mc,FA,fn,fc,M,F,ar⟩ W bJ L:=(mf.mk cn.1.src cn.1.blk (bd.2.2.trans cn.1.fr) cn.1.le).fresh bd.1 P fun b O=>by have:=(m b O).1;omega
 have bh:=cn.2.2.2.2.2.1.cz P.size fun b ao hp=>P.block b ao (hp.elim (fun h=>h.elim) fun hp=>ax b hp);have b4:Sl bJ (fun b=>wr.heap.size≤b∧b<X.heap.size) IA i (r.idx.toList.map a4):=cn.2.2.2.2.2.2.1.ao fun b O=>P.block b (aB O.2) fun h=>by have:=(m b h).2;have:=O.1;omega
 have bH:=gK aR (cn.2.1.on P bf) (cn.2.2.1.on P aI) (cn.2.2.2.1.on P aY) bo bh b4;have aG:∀b,(Value.slice bO (on+1) av).ownBlock=some b→(B≤b∧b<S.heap.size∧(Value.slice au on bj).ownBlock=some b)∨U.heap.size≤b:=fun b O=>(bV b O).imp (fun h=>⟨(m b h).1,(m b h).2,h⟩) id;have a5:=ai aG P.size;clear bo P bV j m ax aY bf aI aR bh b4 aG cn az a7 am aE;obtain⟨a7,am,aE⟩:=bH.2.2.1.two;have gO:Sl bJ (off (fun b=>b=s∨b=wb) bJ) o ba (be.map D.s):=bH.2.2.2.2.2.1.sl (fun _ _ h=>h.elim) (fun b O aT=>⟨O,fun h=>ad⟩);go_wp2_with (fail);refine(cg.2.2 L ad 0 2 be (T++decls ls) o ba u bc ps QA ch qc bP bJ ad ad (bH.1.wr bd.1) gO ad (fun k ap=>cg.2.1 k ad) (Sl.cZ bd.2.1 bH.1.fr) bu).mono ?_;rintro e cy ⟨v,aX,cI,ak,cx,rfl,R,bn,b7,ci,z⟩
 try simp only at z
 clear a7 am aE gO;have a9:=R.le;have cB:L≤24:=bH.1.le;have cH:ak≤48:=by
  exact ya
 have aG:=a5.1;have cN:=a5.2;have bg:∀b,(b=s∨b=wb)→b<W.heap.size:=fun b O=>by
  exact yb
 have cF:W.heap.size<B:=ad;have cs:=bH.2.2.2.2.1.cZ z fun b O hl=>⟨fun h=>by have:=bg b O;have:=h.1.1;omega,by have:=bg b O;omega⟩
 have br:=bH.2.2.2.2.2.1.cZ z fun b O hl=>⟨fun h=>h,by have:=bg b O;omega⟩
 have ct:Sl cy (fun b=>wr.heap.size≤b∧b<X.heap.size) IA i (r.idx.toList.map a4):=bH.2.2.2.2.2.2.ao fun b O=>z.block b (aB O.2) fun h=>by have:=bg b h;have:=O.1;omega
 have ca:=aV.1;have bp:Sl cy (j2 (fun b=>(B≤b∧(Value.slice o ba u).ownBlock≠some b)∧b≠S.heap.size) cy (.slice bO (on+1) av)) cI ak (v.map aW):=b7.mono fun b O=>⟨⟨⟨by have:=O.1;omega,fun h=>by have:=ca b h;have:=O.1;omega⟩,by have:=O.1;omega⟩,O.2,fun h=>by
  have ac:=O.1;rcases aG b h with J|J
  ·omega
  ·have:=(bH.2.2.2.2.1.lt h).2;omega⟩
 have cw:=ub (bH.1.Cf ci z) (bH.2.1.on z fun h=>by have:=bg _ h;omega) (bH.2.2.1.on z fun h=>by have:=bg _ h;omega) (bH.2.2.2.1.on z fun h=>by have:=bg _ h;omega) cs br ct bp R;have bv:∀d∈v.map aW,d.sz=11:=fun d hd=>by obtain⟨x,_,rfl⟩:=GD.1 hd;exact nV x
 have ck:B≤cy.heap.size:=by have:=z.size;omega
 have cD:U.heap.size≤cy.heap.size:=by have:=z.size;omega
 clear R bn b7 ci z cs br ct bp bH aG ca;go_upto_region 13 with(at_builtin;refine oN jQ rfl (.tmp 63) (.tmp 67) rfl cw.2.2.2.2.1 cw.2.2.2.2.2.2.2.1 bv rfl rfl ad ad ck ?_;intro cE bL cJ an aq b3 ce;have bK:=aK an aq b3;clear an aq b3 ce);obtain⟨bm,aA,bI⟩:=bK.o;have aG:=a5.1;obtain⟨j,m,ax⟩:=aV.o;have cc:∀b,(Value.slice o ba u).ownBlock=some b→(Value.slice bO (on+1) av).ownBlock≠some b:=fun b O h=>by
  exact yc
 have aY:¬(Value.slice bO (on+1) av).ownBlock=some X.heap.size:=fun h=>by rcases aG _ h with J|J<;>omega
 have bf:¬(Value.slice bO (on+1) av).ownBlock=some S.heap.size:=fun h=>by rcases aG _ h with J|J<;>omega
 have aI:¬(Value.slice bO (on+1) av).ownBlock=some b1:=fun h=>by rcases aG _ h with J|J<;>omega
 have bZ:=cw.1.fresh bd.1 aA fun b O=>by rcases aG _ O with J|J<;>omega
 have bt:=cw.2.2.2.2.2.1.cz aA.size fun b ao hp=>aA.block b ao (hp.elim (fun h=>h.elim) fun hp=>cc b hp);have cu:Sl cJ (fun b=>wr.heap.size≤b∧b<X.heap.size) IA i (r.idx.toList.map a4):=cw.2.2.2.2.2.2.1.ao fun b O=>aA.block b (aB O.2) fun h=>by have ac:=O.1;have aS:=O.2;rcases aG _ h with J|J<;>omega
 have c4:=gK bZ (cw.2.1.on aA bf) (cw.2.2.1.on aA aI) (cw.2.2.2.1.on aA aY) bm bt cu;have aD:∀b,(Value.slice cE (on+1+ak) bL).ownBlock=some b→(B≤b∧b<S.heap.size∧(Value.slice au on bj).ownBlock=some b)∨U.heap.size≤b:=fun b O=>by
  rcases bI b O with ac|ac
  ·exact aG b ac
  ·exact .inr ad
 have cC:=ae aD;clear bm aA bI aG j m ax cc aY bf aI bZ bt cu aD bK;obtain⟨a6,aL,aP⟩:=c4.2.1.two;obtain⟨bD,bE,b5⟩:=c4.2.2.2.1.two;go_wp2_with (fail);generalize cb:World.setCell _ _ _=Y;have bF:W.heap.size≤S.heap.size:=bd.2.2.size;obtain⟨bA,bw,bb⟩:=dA (M:=fun b=>b=s∨b=wb) (w:=W) [.int .i64 6,.string ⟨#[]⟩,.int .i64 0,.int .i64 0,.string ⟨#[]⟩,.slice none 0 0,.string r.name,.slice IA i ic,.slice none 0 0,.slice none 0 0,.slice none 0 0] (by rfl) c4.2.1 c4.1.fr bF cb;have j:=aV.1;have aD:=cC.o;have bC:=c4.2.2.2.2.2.1;have da:=c4.2.2.2.2.1;have R:=cw.2.2.2.2.2.2.2.2;have cG:Sl Y (fun b=>wr.heap.size≤b∧b<X.heap.size) IA i (r.idx.toList.map a4):=c4.2.2.2.2.2.2.ao fun b O=>bb.block b (kk O.2 c4.2.2.2.1.lt) (aB O.1);have bT:cJ.heap.size≤Y.heap.size:=bb.size;have cL:X.heap.size<cJ.heap.size:=c4.2.2.2.1.lt
 try refine cj _ _ ?_
 unfold js;refine⟨o,ba,u,cE,on+1+ak,bL,?_⟩
 iterate 240 apply Exists.intro
 refine⟨?_,rfl⟩;refine⟨be,.lock false r::v,.lock true r,aX,_,c4.1.fresh bd.1 bb (fun b O=>ad),c4.2.2.1.on bb ad,⟨?_,?_,fun b O h=>?_⟩,bA,?_,uC aZ.2.2.2.1 cg.1 R.wf,?_,?_,a9,?_,ad,ad⟩
 ·exact Gr.strs (bC.cz bb.size fun b ao hp=>bb.block b ao (hp.elim (fun h=>h.elim) fun hp=>by have:=j b hp;omega))
 ·have ac:=(da.cz bb.size fun b ao hp=>bb.block b ao (by
   rcases hp with hp|hp
   ·exact hp.2
   ·rcases aD b hp with J|J<;>omega)).mono fun b _ hp=>hp.1
  exact x1
 ·rcases aD b h with J|J
  ·exact aV.2.2 b O J.2.2
  ·have:=j b O;omega
 ·exact de im (fR.2 ⟨IA,i,ic,rfl,aZ.2.2.2.2.1,cG.mono fun b O=>⟨⟨by have:=O.1;omega,fun h=>by have:=j b h;have:=O.1;omega⟩,by have:=O.2;omega,fun h=>by have ac:=O.1;have aS:=O.2;rcases aD b h with J|J<;>omega⟩⟩) (Sl.bu _) (Gb _) (Sl.bu _) (Gb _) (Sl.bu _) (Gb _)
 ·intro n hn;exact xW
 ·rw[Gs,iF,qq,m7];have:=R.num;simp only[ay.num];omega
 ·intro y a3;have:=cg.1 a3;exact yd
 ):p:=h
theorem CS{p:Prop}(h:p:=by
 have u:0<n:=ap.o;have D:=ae (b0.B3.symm.trans (vt (f:=s.size - k) (acc:=acc) ao b0.skip aH.o HA.o O.o));have s2:=fun W=>f6 (b:=b) (o:=o) M u hn W;have c2:=fun(cs:Array Value) (t:TypeId)=>jb (bs.on (GN.alloc (.cells cs t))) (k:=k) (n:=n) (cap - k) hn;go_wp2_with (fail);refine(lA (s.extract k (k+n)) _).mono ?_;rintro e aQ ⟨rfl,bt⟩;clear s2 c2;have z:qQ wr aQ 1 0 k:=by
  have e1:Ext wr aQ:=(GN.alloc _).trans bt;have av:=(ag.new wr 203 #[.int .i64 1,.string ⟨#[]⟩,.int .i64 0,.int .i64 k]).al bt;exact⟨Fr.ext e1,av,av.lt⟩
 clear bt;have Q:=ae z;obtain⟨Z,au,aw⟩:=z.blk.two;clear z;have aJ:g8 (s.extract k (k+n))=dm ((s.data.toList.drop k).take n):=by unfold g8;rw[fq]
 rw[aJ];clear aJ;have hlen:((s.data.toList.drop k).take n).length=n:=by simp;omega
 by_cases aX:dm ((s.data.toList.drop k).take n)=true
 ·rw[aX] at D ⊢;have bh:=ae (D.o);clear aX hlen D;simp only[Bool.not_true,Bool.false_and,GL,if_false,if_true] at bh;go_upto_region 28 with(fail);generalize ah:World.setCell aQ _ _=X;have r:qQ wr X 3 0 k:=by
   rw[←ah];exact⟨Q.below.setCell (p:=⟨wr.heap.size,0,none⟩) (Gb _) _,Q.blk.aH 0 _,by simpa using Q.lt⟩
  clear ah Z au aw;have P:=ae r;obtain⟨bD,bE,b5⟩:=r.blk.two;clear r;by_cases bo:acc.length=4000
  ·have c7:((acc.length:Int) == 4000)=true:=by simp;omega
   have V:(acc.length == 4000)=true:=by simp;omega
   have aZ:=ae (bh.trans (if_pos bo));clear bo;go_wp2
   go_ret3
   exact sG
  have c7:((acc.length:Int) == 4000)=false:=by simp;omega
  have V:(acc.length == 4000)=false:=by simp;omega
  have aZ:=ae (bh.trans (if_neg bo));have T:=ae bo;clear bo;have K:eG X b o cap s:=bs.Cg P.below;have aW:=fun W=>f6 (b:=b) (o:=o) M u hn W;have c3:=jb K (k:=k) (n:=n) (cap - k) hn;have ay:=ae K;clear K;go_upto_region 31 with(fail);generalize cb:World.setCell X _ _=Y;have N:Below wr.heap.size wr Y:=cb▸P.below.setCell (p:=⟨wr.heap.size,1,none⟩) (Gb _) _;have al:ag Y wr.heap.size 203 #[.int .i64 3,.string (s.extract k (k+n)),.int .i64 0,.int .i64 k]:=cb▸P.blk.aH 1 _;obtain⟨bA,af,aj⟩:=al.two;have x:=ae N;clear cb N al bD bE b5 aW c3;go_wp2_with ((at_builtin;refine dM Y nD rfl (.tmp 119) (.tmp 121) rfl w.heap.size _ _ _ #[.int .i64 3,.string (s.extract k (k+n)),.int .i64 0,.int .i64 k] rfl (cn b0.own x.o) rfl rfl (by simp[Value.oneCell']) ad ad (Gu b0.below.size x.size) ?_;intro v2 cJ d an G;obtain⟨A2,c2,rfl,R,_⟩:=bT d));have aB:Below w.heap.size w cJ:=gZ (b0.below.trans (x.mono b0.below.size)) (cn b0.own x.o) an (Gb _) (Gu b0.below.size x.size);have L:=ai aB d;clear aB d an G bA af aj;have g:=jL s b o cap (k+n) cJ (H.Cg L.1) hn;rw[Int.natCast_add] at g;refine g.mono ?_;clear g;rintro e ab ⟨rfl,rfl⟩;obtain⟨F,bF,az,b7,bK,cB⟩:=lC s (k+n) hn;rw[cB];have a8:=ai b7 bK;clear b7 bK cB;go_wp2;go_roundw
  case rel=>
   refine⟨F,acc++[⟨3,(s.data.toList.drop k).take n,0,(k:Int)⟩],rfl,b0.next (m:=k+n) ?_ T.o ad hn (b0.B3.trans aZ.o) L.1 bF az a8.1 a8.2⟩;exact sH
  case measure=>simp[intOf];omega
 have am:dm ((s.data.toList.drop k).take n)=false:=by simpa using aX
 rw[am] at D ⊢;by_cases ar:16<n
 ·have bh:=ae (D.trans (if_pos (by rw[hlen];simp[ar])));clear aX am hlen;go_wp2
  go_ret3
  exact iQ.bad bh.o (b0.below.trans (Q.below.mono b0.below.size))
 have bh:=ae (D.trans (if_neg (by rw[hlen];simp[ar])));simp only[GL,if_false] at bh;clear aX am hlen D;go_upto_region 28 with(fail);have X:World:=aQ;clear X;generalize aQ=X at *;have r:=Q.o;clear Z au aw;have P:=ae r;obtain⟨bD,bE,b5⟩:=r.blk.two;clear r;by_cases bo:acc.length=4000
 ·have c7:((acc.length:Int) == 4000)=true:=by simp;omega
  have V:(acc.length == 4000)=true:=by simp;omega
  have aZ:=ae (bh.trans (if_pos bo));clear bo;go_wp2
  go_ret3
  exact sG
 have c7:((acc.length:Int) == 4000)=false:=by simp;omega
 have V:(acc.length == 4000)=false:=by simp;omega
 have aZ:=ae (bh.trans (if_neg bo));have T:=ae bo;clear bo;have K:eG X b o cap s:=bs.Cg P.below;have aW:=fun W=>f6 (b:=b) (o:=o) M u hn W;have c3:=jb K (k:=k) (n:=n) (cap - k) hn;have ay:=ae K;clear K;go_upto_region 31 with(fail);generalize cb:World.setCell X _ _=Y;have N:Below wr.heap.size wr Y:=cb▸P.below.setCell (p:=⟨wr.heap.size,1,none⟩) (Gb _) _;have al:ag Y wr.heap.size 203 #[.int .i64 1,.string (s.extract k (k+n)),.int .i64 0,.int .i64 k]:=cb▸P.blk.aH 1 _;obtain⟨bA,af,aj⟩:=al.two;have x:=ae N;clear cb N al bD bE b5 aW c3;go_wp2_with ((at_builtin;refine dM Y nD rfl (.tmp 119) (.tmp 121) rfl w.heap.size _ _ _ #[.int .i64 1,.string (s.extract k (k+n)),.int .i64 0,.int .i64 k] rfl (cn b0.own x.o) rfl rfl (by simp[Value.oneCell']) ad ad (Gu b0.below.size x.size) ?_;intro v2 cJ d an G;obtain⟨A2,c2,rfl,R,_⟩:=bT d));have aB:Below w.heap.size w cJ:=gZ (b0.below.trans (x.mono b0.below.size)) (cn b0.own x.o) an (Gb _) (Gu b0.below.size x.size);have L:=ai aB d;clear aB d an G bA af aj;have g:=jL s b o cap (k+n) cJ (H.Cg L.1) hn;rw[Int.natCast_add] at g;refine g.mono ?_;clear g;rintro e ab ⟨rfl,rfl⟩;obtain⟨F,bF,az,b7,bK,cB⟩:=lC s (k+n) hn;rw[cB];have a8:=ai b7 bK;clear b7 bK cB;go_wp2;go_roundw
 case rel=>
  refine⟨F,acc++[⟨1,(s.data.toList.drop k).take n,0,(k:Int)⟩],rfl,b0.next (m:=k+n) ?_ T.o ad hn (b0.B3.trans aZ.o) L.1 bF az a8.1 a8.2⟩;exact sH
 case measure=>simp[intOf];omega
 ):p:=h
theorem CT{p:Prop}(h:p:=by
 clear bi;go_wp2_with (fail);generalize hV:World.alloc _ _=V;have S:Ext W V:=hV▸GN.alloc _;have gk:ag V W.heap.size 155 #[.int .i64 c.target,.slice none 0 0]:=hV▸ag.bR _ _ _ (by simp);have cv:W.heap.size<V.heap.size:=by rw[←hV];simp
 clear hV;have bs:=ae S;have P:=ae gk;clear a0 al af a7 am aE a6 aL aP S gk;obtain⟨d8,ay⟩:∃d8:Nat→List D,d8=fun j=>(((c.places.take j).map fun pl=>if pl.param then c8.getD pl.index.toNat 0 else pl.index).map .i):=⟨_,rfl⟩
 have bf:=ae ay;have bU:d8 0=[]:=by rw[ay];rfl
 have N:∀j pl,c.places[j]?=some pl→d8 (j+1)=d8 j++[.i (if pl.param then c8.getD pl.index.toNat 0 else pl.index)]:=fun j pl h=>by rw[ay];simp only;rw[List.take_add_one,h];simp
 have aR:=ae bU;have aa:=ae N;clear ay bU N
 try rw[show w.heap.size+1+1=w.heap.size+2 from rfl]
 generalize decide ((k:Int)<0)=R;generalize decide (ct≤k)=aC;generalize (R || aC)=bo;go_loopw [10] (fun cp wr=>∃(j:Nat) (aS:GR) (cE:Nat),j≤m∧cp=.int .i64 j∧Fr (fun b=>b=W.heap.size) V wr∧ag wr W.heap.size 155 #[.int .i64 c.target,.slice aS j cE]∧Gr (fun _=>False) V.heap.size 3 1 wr aS j cE (d8 j)) (fun i _=>m - (intOf i).toNat)
 case atStart=>exact⟨0,none,0,Gz _,rfl,GN,P.o,by rw[aR.o];exact Gr.nil _ _ _ _ _⟩
 case round=>
  obtain⟨j,aS,cE,ba,rfl,aw,bY,aM⟩:=hrel;have F:Ext W wr:=Fr.low (M:=fun b=>b=W.heap.size) ((Fr.mono bs.o fun _ h=>h.elim).trans aw) fun k ap=>ad;have aY:=(F.oK.1 bc (bj+k*12+11) cP).trans X;have P:=ae bY;have z:=ae F;have bW:=ae aw;have cK:=ae aM;have bM:W.heap.size<wr.heap.size:=bY.lt;have a8:bc<wr.heap.size:=Gc cP F.size;obtain⟨e0,bl,a5⟩:=bY.two;obtain⟨a7,am,aE⟩:=(bk.al F).two;by_cases ao:j<m
  ·obtain⟨cW,di,pl,bn,ch,aX,rfl,bt,cd,dN,co,ej,_,_⟩:=(r.places.on (Fr.ext F)).qu ao;have aU:c8.length=b2:=by have:=cX.1;simpa using this
   have dI:=(aJ.procs dP (Ge b9.o)).av.2;have aN:b2≤140737488355328:=by have:=H.o;omega
   have E:pl.param=true→0≤pl.index∧pl.index<b2:=fun O=>by
    have ac:=bT.2.2.2 pl (Ge cd) O;have:=H.o;omega
   have cy:(0:Int)≤(j:Int):=ad;have gl:(j:Int)<(m:Int):=ad;have g:=ae aN;have ak:=ae E;have U:=ae cd;clear aw bY aM F X aU dI aN E cd;go_upto_region 8 with(fail);refine eh (fun _=>False) [(0,3),(1,0),(2,0),(3,3),(4,3),(5,3),(6,3),(7,0),(8,3),(9,3),(10,0),(11,1),(12,1),(13,2),(14,3),(15,2)] ?_;refine pf ?_
   iterate 2 refine ph ?_
   iterate 4 refine pf ?_
   refine ph ?_
   iterate 2 refine pf ?_
   refine ph ?_;refine aA rfl (fun K hK=>?_);go_simp;obtain⟨v,bC⟩:∃v:Int,v=if pl.param then c8.getD pl.index.toNat 0 else pl.index:=⟨_,rfl⟩
   refine(vy cY b4 b2 cu c8 pl [] (.slice bn ch aX) wr.drew (cX.on (Fr.ext ((bh.trans z.o).drew))) g.o ak.o).mono ?_;rintro e aH ⟨he,ar⟩;rw[←bC] at he;subst he;have cg:=ae bC;clear bC;have aI:Ext wr aH:=Fr.aE ar;refine hK _ _ (ar) ?_;clear hK K
   try simp only[PU]
   refine uQ ?_;refine ax rfl (fun K hK=>?_);rw[if_pos (by rfl)];clear ar;have aZ:=aI.size;have bp:=bW.size;refine lI dj (.tmp 60) (.tmp 71) (by rfl) (cK.al aI) (d:=.i v) (by simp only[D.rep]) (by rfl) (by rfl) (by rfl) ad ad ad ?_;intro L ai aQ an aq b3 ce;have I:∀b,(Value.slice aS j cE).ownBlock=some b→V.heap.size≤b:=fun b O=>(cK.lt O).1;have l:=(P.al aI).on aq (fun O=>by have:=I _ O;omega);have aO:Fr (fun b=>b=W.heap.size) V aQ:=by
    have bG:=bW.size;have bq:=aq.size;exact⟨aq.os.trans (aI.os.trans bW.os),aq.tape.trans (aI.tape.trans bW.tape),aq.output.trans (aI.output.trans bW.output),ad,
     fun b O hn=>(aq.block b ad (fun bi=>by have:=I _ bi;omega)).trans ((aI.block b ad fun h=>h).trans (bW.block b O hn))⟩
   have bB:=aK an l aO;clear e0 bl a5 a7 am aE aI an aq b3 I aO dN co ej;obtain⟨e0,bl,a5⟩:=l.two;clear l;refine hK _ _ ?_;clear hK K
   try simp only[PU]
   refine pf ?_;refine ax rfl (fun K hK=>?_);go_simp;refine hK _ _ ?_;clear hK K
   try simp only[PU]
   refine aD ?_;clear e0 bl a5;generalize bH:World.setCell aQ _ _=bE;have cz:Fr (fun b=>b=W.heap.size) aQ bE:=bH▸(Fr.refl (fun b=>b=W.heap.size) aQ).setCell (.inl rfl) _;have t:ag bE W.heap.size 155 #[.int .i64 c.target,.slice L (j+1) ai]:=bH▸bB.2.1.aH 1 _;clear bH;have cO:=bB.1.cZ cz (fun b O _=>⟨fun h=>h,ad⟩);have n:=aK t cO (bB.2.2.trans cz);clear t cO cz;go_wp2_with (fail);go_roundw
   case rel=>
    refine⟨j+1,L,ai,ad,by go_num,n.2.2,n.1,?_⟩;have:=n.2.1;rw[aa.o j pl U.o,←cg.o];exact this
   case measure=>simp[intOf];omega
  ·obtain rfl:j=m:=ad;have bz:=bK.al F;have G:=ae bz;obtain⟨a6,aL,aP⟩:=bz.two;clear aw bY aM F bz;go_wp2_with (fail);generalize cb:World.setCell _ _ _=Y;obtain⟨bA,bw,bb⟩:=DB G.o (bh.trans z.o) ad cb;obtain⟨bx,bd,be⟩:=bA.two;refine GM (v:=.tuple #[.agg #[.int .i64 c.target,.slice aS j cE],.bool true]) (by simp[results,Tryz.results79,go_sem,bx]) rfl ?_;obtain⟨co,ej,cT,c7⟩:=bT.o;have bJ:=bh.size;have bv:=bK.lt;have dd:=cK.cZ bb (fun b O _=>⟨fun h=>h,ad⟩);refine⟨true,⟨c.target,c.places.map fun pl=>if pl.param then c8.getD pl.index.toNat 0 else pl.index⟩,aS,j,cE,rfl,fun _=>⟨q,co,ej,by simpa using cT⟩,cK.cap.1,?_,bw⟩;have hS:=dd.sl (Q:=fresh w Y) (fun b _ h=>h.elim) (fun b ac J=>⟨ad,ac⟩);rw[bf.o] at hS;simp only at hS;rw[Gj (aB dr.o)] at hS;exact hS
 ):p:=h
theorem CU{p:Prop}(h:p:=by
 go_upto_region 31 with(fail);refine eh (fun _=>False) [(0,3),(1,3),(2,3),(3,3),(4,3),(5,0),(6,0),(7,1),(8,2),(9,3),(10,3),(11,3),(12,2)] ?_
 iterate 5 refine pf ?_
 iterate 2 refine ph ?_
 refine rC ?_;generalize bo:World.drew (World.alloc _ _)=Z;have a9:Ext wr Z:=bo▸(GN.alloc _).drew;have bm:ag Z wr.heap.size 140 #[.string (hv i),.slice PA pn pc,.slice none 0 0]:=bo▸GO;have bN:=hj.next (hj.src.ch a9 fun _ _ h=>h) (a9.mono fun _ h=>h.elim);have cc:=bW.2.2.2.al a9;have hG:∀b,(Value.slice FA i fc).ownBlock=some b→I≤b∧b<cu.heap.size:=fun b O=>b9.fs.lt O;have jv:=b9.hD;have ck:Sl Z (j2 (fun b=>I≤b) Z (.slice FA i fc)) PA pn (ps.map cW):=cc.sl (fun b _ h=>h.elim) (fun b O aT=>⟨ad,O,fun h=>by have:=(hG b h).2;omega⟩);have ju:cu.heap.size≤Z.heap.size:=by have:=bW.2.1.size;have:=a9.size;omega
 have bf:=bO bN bm ck bW.2.2.2.cap.1;have iV:=ae hG;have jw:=b9.blk.lt;clear bo a9 bm bN cc ck hG a0 al af fn bK dr;refine ax rfl (fun K hK=>?_);rw[if_pos (by rfl)];refine d8 DU (.tmp 177) (.tmp 179) (by rfl) bf.1.fs bf.2.1 (Cr bf.2.2.2 bf.2.2.1) (by rfl) (by rfl) (by rfl) ad ad ad ?_;intro iM iE fg bP aW gN gz;have aX:=bf.1.blk.on aW (fun O=>by have:=(iV.o _ O).1;omega);have bd:=ai bP aW;clear bP aW gN gz;obtain⟨a0,al,af⟩:=aX.two;clear aX;refine hK _ _ ?_;clear hK K
 try simp only[PU]
 iterate 3 refine pf ?_
 refine ax rfl (fun K hK=>?_);go_simp;refine hK _ _ ?_;clear hK K
 try simp only[PU]
 refine aD ?_;generalize dw:World.setCell _ _ _=gL;obtain⟨aF,a8,gm⟩:=iW.o;have f:=bf.1.add bd.1 bd.2 ad (b9.FE.snoc b2 a8 gm gl.1);rw[dw] at f;have ch:=ae f;clear dw f a0 al af gm;go_wp2_with (fail);go_roundw
 case rel=>exact⟨i+1,iM,iE,F++[⟨hv i,ps,.nil⟩],by go_num,ad,ch.o⟩
 case measure=>simp[intOf];omega
 ):p:=h
theorem zI{p:Prop}(h:p:=by
 have aO:=ae aR.o;generalize cp u s t f x=bi at *;obtain⟨Q,b⟩:=bi;rintro e bJ ⟨⟨n,bE,aN,y,m,L,a4,o,a2⟩,rfl,ch,ay⟩;clear a0 al af a7 am aE a6 aL aP;have aZ:=ai ((aj.2.2.2.1.al bs.o).al ay) ((aj.1.trans bs.o).trans ay);have cI:=ae ch;clear ch ay;obtain⟨bx,bd,be⟩:=aZ.1.two;go_wp2_with (fail);generalize ah:World.setCell _ _ _=Z;obtain⟨bm,a9,bn⟩:=cx (w:=w) [.slice n bE aN,.slice y m L,.slice a4 o a2,.int .i64 Q.fault] (by rfl) aZ.1 aZ.2 ad ah;have bf:=ai a9 bn;clear ah a9 bn bx bd be;obtain⟨bx,bd,be⟩:=bm.two;refine GM (v:=.tuple #[.agg #[.slice n bE aN,.slice y m L,.slice a4 o a2,.int .i64 Q.fault],.bool b]) (by simp[results,Tryz.results16,go_sem,bx]) rfl ?_;rw[aO.o];show dE lp w Q b _ _
 exact dT (Q:=Q) (q:=⟨n,bE,aN,y,m,L,a4,o,a2⟩) cI.o bf.2 (fun b O=>ad) ad bf.1
 ):p:=h
theorem EN{p:Prop}(h:p:=by
 refine aR ?_ ?_
 ·
  refine az rfl (fun K hK=>?_) rfl;go_simp;refine(aN X.drew s bN bG bq sl fn (aU.1.al a2 GN.drew).src ad ad).mono ?_;rintro e aH ⟨cm,rfl,aM,bQ,h,he⟩;obtain⟨j,rfl⟩:=Gg aM;have a5:j<fn:=ad;have t:Fr (fun b=>b=s) X aH:=Fr.aE he.fr;have v:Fr (fun b=>b=s∨b=wb) S aH:=aU.1.fr.trans (t.mono fun _ h=>.inl h);refine hK _ _ (he.fr) ?_;clear hK K
  try simp only[PU]
  obtain⟨bx,b3,g,cs,m,ci,r,y,a1,hc⟩:=Sl.fJ (z:=3) aF.1.fs (fun _=>rfl) (k:=j) (by simpa using a5);injection m with m;injection m with hFA1 hFA2;subst hFA1 hFA2;obtain⟨bI,bh,bv,H,aV,aI,rfl,bL,bZ⟩:=Ba y;have e0:=(v.cell ci.1 ci.2).trans (hc 0 _ rfl);have e1:=(v.cell ci.1 ci.2).trans (hc 1 _ rfl);have e2:=(v.cell ci.1 ci.2).trans (hc 2 _ rfl);simp only[Gl] at e0;have b2:bY<aH.heap.size:=by have:=v.size;have:=ci.1;omega
  have bp:¬bY=s:=fun h=>ci.2 (.inl h);have cy:(0:Int)≤(j:Int):=ad;have gl:(j:Int)<(fn:Int):=ad;have a8:=Ge r;skip
  refine tf ?_;refine FY ?_;refine ak ?_;refine dU ?_;generalize bo:World.alloc _ _=Z;have e3:Ext aH Z:=bo▸GN.alloc _;have av:Fr (fun b=>b=s) X Z∧bV Z s bN bG bq sl∧ag Z aH.heap.size 140 #[.string ⟨#[]⟩,.slice none 0 0,.slice none 0 0]∧X.heap.size≤aH.heap.size∧∃(ai:aG) (aS:GR) (G a4:Nat) (ap:GR) (a3 aW:Nat),(Value.agg #[.string g.name,.slice bI bh bv,.slice H aV aI])=.agg #[.string ai.name,.slice aS G a4,.slice ap a3 aW]∧ai∈F∧Sl S (off (fun b=>b=s∨b=wb) S) aS G (ai.params.map cW):=
   ⟨t.trans (e3.mono fun _ h=>h.elim),h.ch e3 fun _ _ h=>h,by rw[←bo];exact GO,t.size,g,bI,bh,bv,_,_,_,rfl,a8,bZ⟩
  clear bo e3 bZ y a1 hc e0 e1 e2;revert av;generalize aH.heap.size=aj;generalize (Value.agg #[.string g.name,.slice bI bh bv,.slice H aV aI])=an;intro av;exact key aj j an _ av
 ·
  refine ja ?_;generalize hV:World.drew (World.alloc _ _)=c3;have e1:Ext X c3:=hV▸(GN.alloc _).drew;have cw:ag c3 X.heap.size 140 #[.string ⟨#[]⟩,.slice none 0 0,.slice none 0 0]:=hV▸GO;have b7:=cw.lt;refine ak ?_;refine az rfl (fun K hK=>?_) rfl;go_simp;refine(aN c3 s bN bG bq sl fn (aU.1.al a2 e1).src ad ad).mono ?_;rintro e aH ⟨cm,rfl,aM,bQ,h,he⟩;obtain⟨j,rfl⟩:=Gg aM;have a5:j<fn:=ad;have t:Fr (fun b=>b=s) X aH:=(e1.mono fun _ h=>h.elim).trans he.fr;have v:Fr (fun b=>b=s∨b=wb) S aH:=aU.1.fr.trans (t.mono fun _ h=>.inl h);have dC:s<X.heap.size:=by have:=aU.2.2.2;omega
  refine hK _ _ (he.fr) ?_;clear hK K
  try simp only[PU]
  obtain⟨bx,b3,g,cs,m,ci,r,y,a1,hc⟩:=Sl.fJ (z:=3) aF.1.fs (fun _=>rfl) (k:=j) (by simpa using a5);injection m with m;injection m with hFA1 hFA2;subst hFA1 hFA2;obtain⟨bI,bh,bv,H,aV,aI,rfl,bL,bZ⟩:=Ba y;have e0:=(v.cell ci.1 ci.2).trans (hc 0 _ rfl);have e1:=(v.cell ci.1 ci.2).trans (hc 1 _ rfl);have e2:=(v.cell ci.1 ci.2).trans (hc 2 _ rfl);simp only[Gl] at e0;have b2:bY<aH.heap.size:=by have:=v.size;have:=ci.1;omega
  have bp:¬bY=s:=fun h=>ci.2 (.inl h);have cy:(0:Int)≤(j:Int):=ad;have gl:(j:Int)<(fn:Int):=ad;have a8:=Ge r;skip
  refine tf ?_;refine FY ?_;have av:Fr (fun b=>b=s) X aH∧bV aH s bN bG bq sl∧ag aH X.heap.size 140 #[.string ⟨#[]⟩,.slice none 0 0,.slice none 0 0]∧X.heap.size≤X.heap.size∧∃(ai:aG) (aS:GR) (G a4:Nat) (ap:GR) (a3 aW:Nat),(Value.agg #[.string g.name,.slice bI bh bv,.slice H aV aI])=.agg #[.string ai.name,.slice aS G a4,.slice ap a3 aW]∧ai∈F∧Sl S (off (fun b=>b=s∨b=wb) S) aS G (ai.params.map cW):=
   ⟨t,h,cw.on he.fr ad,Gb _,g,bI,bh,bv,_,_,_,rfl,a8,bZ⟩
  clear hV bZ y a1 hc e0 e1 e2;revert av;generalize (Value.agg #[.string g.name,.slice bI bh bv,.slice H aV aI])=an;intro av;exact key X.heap.size j an _ av
 ):p:=h
theorem CV{p:Prop}(h:p:=by
 obtain⟨a7,am,aE⟩:=ba.blk.two;obtain⟨bD,bE,b5⟩:=dw.two;clear bL bC dy dv db ba dw dT;go_wp2_with (fail);have cO:∀z∈eq,z.av.length≤1000000:=fun z bv=>by
  obtain⟨q,_,bu,hl⟩:=aQ.2.2.2.2.2.2.2.1.ok z bv;have:=(cn.procs q (Ge bu)).av.2;omega
 refine(nY bR eg b0 aV i bX bI bG bq eq y aS cM cE fg (aQ.2.2.2.2.2.2.2.1.ins.sl (fun b h _=>h) (fun b h _=>h)) aQ.2.2.2.2.2.2.2.2.2 ad cO).mono ?_;rintro e gL ⟨gN,rfl,b7,bK,aN⟩;clear a7 am aE bD bE b5 cO b7 bK;obtain⟨_,_,bL,bC,dy,dv,db,ba,dw,dT⟩:=aQ.o;obtain⟨cH,ee,ef⟩:=(db.al aN).two;have bJ:=eC.o;have dO:=dz bL (bC.trans aN) (dy.al aN) (dv.al aN) (db.al aN) (ba.on (aN.mono fun _ h=>h.elim));clear bL bC dy dv db ba dw dT aN aQ;go_upto_region 20 with(fail);generalize bo:World.setCell _ _ _=Z;have bn:Fr (fun b=>b=cl) gL Z:=bo▸(Fr.refl (fun b=>b=cl) gL).setCell (.inl rfl) _;have bm:ag Z cl 3 (cs.setIfInBounds bQ (.int .i64 gN)):=bo▸dO.2.2.2.2.1.aH bQ _;have dV:w.heap.size≤cl:=da.1;have a9:Ext w Z:=dO.2.1.eg (bn.below dO.2.1.size fun k ap h=>ad);have bf:=cA a9 (dO.2.2.1.on bn da.2.1) (dO.2.2.2.1.on bn da.2.2) bm (dO.2.2.2.2.2.on bn);have dZ:=ae dO.1;clear bo bn bm cH ee ef dV dO bJ;obtain⟨bc,bj,c,cells,eo,en,es,EA,em,ec,QA,qm,qc,fb,fd,e9,KA,eB,e7,eI,cP,hc,ca,aW⟩:=dl.AE cd;have bP:=ca.cells;subst bP eI;have c0:=(a9.oK.1 bc (bj+bQ*12+0) cP).trans (aW 0 _ rfl);simp only[Gl] at c0;clear aW ca hc a9;by_cases bi:c.op=3
 ·rw[bi] at c0;clear bi;have bJ:Z.cell? ⟨cl,bQ,none⟩=some (.int .i64 gN):=by
   rw[bf.2.2.2.1.cell,Array.getElem?_setIfInBounds_self_of_lt ad]
  obtain⟨eD,e4,dc,_⟩:=bf.2.2.2.2.Ek.some_ bf.2.2.2.2.tz;subst dc;obtain⟨a7,am,aE⟩:=bf.2.2.2.2.blk.two;have eW:=bf.2.2.2.1.lt;have et:bc<Z.heap.size:=Gc cP bf.1.size;go_upto_region 21 with(fail);refine eh (fun _=>False) [(0,3),(1,0),(2,3),(3,3),(4,3),(5,0),(6,2),(7,3),(8,2)] ?_;refine pf ?_;refine ph ?_
  iterate 3 refine pf ?_
  refine ph ?_;refine ax rfl (fun K hK=>?_);go_simp;refine(BA _ eD e4 bG bq dk gN Z.drew (bf.2.2.2.2.on GN.drew).Ek (fun b O=>O.1) ad bf.2.2.2.2.vH bf.2.2.2.2.tz).mono ?_;rintro e iB ⟨ci,eS,cD,eR,rfl,dX,b7,dY,ck,cV⟩;have ds:Ext Z iB:=Fr.aE cV;have gk:=bf.2.2.2.2.blk.al ds;clear a7 am aE c0 bJ;obtain⟨a7,am,aE⟩:=gk.two;have a3:=gp.FP (bf.2.2.2.2.on GN.drew) rfl ck cV dX dY;have bW:=ai ds a3;clear ck cV ds gk a3;refine hK _ _ ?_;clear hK K
  try simp only[PU]
  refine pf ?_;refine ax rfl (fun K hK=>?_);go_simp;refine hK _ _ ?_;clear hK K
  try simp only[PU]
  refine aD ?_;generalize hw:World.setCell _ _ _=wf;have a3:=bW.2;rw[hw] at a3;have a5:Fr (fun b=>b=w.heap.size+1+1+1+1) Z wf:=(bW.1.mono fun _ h=>h.elim).trans (by rw[←hw];exact(Fr.refl (fun b=>b=w.heap.size+1+1+1+1) iB).setCell (.inl rfl) _);have eu:¬cl=w.heap.size+1+1+1+1:=fun h=>a3.kg h.symm;have aZ:=cA (bf.1.eg (a5.below bf.1.size fun k ap h=>ad)) (bf.2.1.on a5 ad) (bf.2.2.1.on a5 ad) (bf.2.2.2.1.on a5 eu) a3;clear hw a3 a5 eu bW a7 am aE;go_wp2_with (fail);go_roundw
  case rel=>exact⟨bQ+1,bR,eg,b0,ci,eS,cD,eq,eR,_,by go_num,ad,ad,ad,d8,dZ.o,by simp;omega,aZ.o⟩
  case measure=>simp[intOf];omega
 ·have dg:(c.op == 3)=false:=by simpa using bi
  clear bi;have et:bc<Z.heap.size:=Gc cP bf.1.size;go_wp2_with (fail);go_roundw
  case rel=>exact⟨bQ+1,bR,eg,b0,bI,bG,bq,eq,dk,_,by go_num,ad,ad,ad,d8,dZ.o,by simp;omega,bf.o⟩
  case measure=>simp[intOf];omega
 ):p:=h
theorem CW{p:Prop}(h:p:=by
 have bW:=ae (aa.o bL);clear aa au;go_wp2_with (fail);refine(eS s bI TA HA bG bq tn tc hn hc aQ (aj.2.2.2.2.2.2.1.on aW.o).at_ aU.sm).mono ?_;rintro e bJ ⟨bc,aN,a3,L,bF,a2,xs,ak,ar,bS,bX,rfl,b8,bN,ay⟩;have bH:=aK b8 bN ay;have cB:=ay.size;clear b8 bN ay a7 am aE a6 aL aP;go_upto_region 13 with(fail);generalize hV:World.alloc _ _=V;have S:Ext bJ V:=hV▸GN.alloc _;have bP:ag V bJ.heap.size 40 #[.slice bc bG aN,.slice a3 tn L,.slice bF hn a2,.int .i64 s.fault]:=hV▸GO;have hOut:dg aH.heap.size V s bJ.heap.size ⟨bc,bG,aN,a3,tn,L,bF,hn,a2⟩ xs ak ar bS bX:=
  ⟨bH.1.ao fun b O=>S.block b (bH.2.1 b O).2 fun h=>h,bP,fun O=>by have:=(bH.2.1 _ O).2;omega,fun b O=>⟨by have:=(bH.2.1 b O).1;omega,by have:=(bH.2.1 b O).2;have:=S.size;omega⟩,ad⟩
 have ax:Ext W V:=(aW.trans bH.2.2).trans S;have y:V.ownsRow 0 87 2 (.slice az tn aG) tn (T.flatMap bZ):=lr (cn (cn P.1 (Fr.ext bH.2.2)) (Fr.ext S)) (Gz _);have U:∀b∈bB az tn aG,aH.heap.size≤b∧b<aQ.heap.size:=fun b O=>P.1.lt b (by simpa using O);have cg:=bO hOut ax y U;obtain⟨e0,bl,a5⟩:=hOut.o.two;clear hV S bP hOut ax y U;go_upto_region 14 with(fail);generalize ah:World.setCell _ _ _=X;have ao:dg aH.heap.size X {s with table:=T} bJ.heap.size ⟨bc,bG,aN,az,tn,aG,bF,hn,a2⟩ xs ak (bB az tn aG) bS bX:=
  cg.1.FR cg.2.2.1 P.2 (fun b O=>⟨fun hm=>by have:=(bH.2.1 b hm).1;have:=(cg.2.2.2 b O).2;omega,by have:=(cg.2.2.2 b O).2;omega,(cg.2.2.2 b O).1⟩) ah
 have bV:Fr (fun b=>b=bJ.heap.size) V X:=ah▸(Fr.refl (fun b=>b=bJ.heap.size) V).setCell (.inl rfl) _;have cM:Ext W X:=Fr.low (M:=fun b=>b=bJ.heap.size) (Fr.trans (Fr.mono cg.2.1 fun _ h=>h.elim) bV) fun b O=>ad;obtain⟨cE,c1,dF,cU,cS,dd,cY,c0,bR,cC,ap⟩:=ao.top (fs:=fs) (f:=f) bT.2.2.1 bT.2.1 bT.1 bT.2.2.2.1;have ab:=aK cC ap cM;clear e0 bl a5;obtain⟨e0,bl,a5⟩:=ao.o.two;clear ah ao bV cM cC ap c0 bR;go_wp2_with (fail);refine(ab.1 X GN).mono ?_;rintro e cy ⟨rfl,b3⟩;have aT:=ae (ab.2.1 cy b3);have cu:=ae (ab.2.2.trans b3);clear e0 bl a5 b3;have b4:=aT.c1;have g2:=aT.fz;have cD:=aT.lt;have cP:=b9.2.2.1;go_upto_region 15 with(fail);generalize ah:World.setCell _ _ _=Y;have cR:pS aH.heap.size Y {s with table:=T,threads:=s.threads.set t.toNat (fs++[next f])} bJ.heap.size ⟨bc,bG,aN,az,tn,aG,bF,hn,a2⟩ xs ak (bB az tn aG) bS bX t fs (next f) cE c1 dF cU cS dd cY:=ah▸aT.Fp bT.2.2.1 (f.pc+1);have aV:Fr (fun b=>b=cE) cy Y:=ah▸(Fr.refl (fun b=>b=cE) cy).setCell (.inl rfl) _;have dp:=aT.ge;have cW:Ext W Y:=Fr.low (M:=fun b=>b=cE) (Fr.trans (Fr.mono cu.o fun _ h=>h.elim) aV) fun b O=>ad;have bM:=aK cR.o (aj.2.2.2.2.1.al cW) (aj.1.trans cW);obtain⟨bx,bd,be⟩:=bM.2.1.two;obtain⟨e0,bl,a5⟩:=cR.o.o.two;clear ah cR aV cW b4 g2 cD aT;go_wp2_with (fail);generalize ah:World.setCell _ _ _=Z;obtain⟨bm,a9,bn⟩:=cx (w:=w) [.slice bc bG aN,.slice az tn aG,.slice bF hn a2,.int .i64 s.fault] (by rfl) bM.2.1 bM.2.2 ad ah;have i:=ai a9 bn;clear ah a9 bn bx bd be e0 bl a5;obtain⟨bx,bd,be⟩:=bm.two
 refine GM (v:=.tuple #[.agg #[.slice bc bG aN,.slice az tn aG,.slice bF hn a2,.int .i64 s.fault],.bool true]) (by simp[results,Tryz.results52,go_sem,bx]) rfl ?_;rw[bW.o];show dE lp w {bk s t (next f) with table:=T} true _ _
 exact f2 (Q:={bk s t (next f) with table:=T}) (q:=⟨bc,bG,aN,az,tn,aG,bF,hn,a2⟩) bM.1 i.2 (fun b O=>ad) ad i.1 (by rw[fa bT.2.2.1])
 ):p:=h
theorem CX{p:Prop}(h:p:=by
 have u:0<n:=ap.o;have D:=ae (b0.B3.symm.trans (AK (f:=s.size - k) (acc:=acc) ao b0.skip aE.o aD.o HA.o O.o));have s2:=fun W=>f6 (b:=b) (o:=o) M u hn W;go_wp2_with (fail);refine(tj s b o cap k n (cap - k) _ (bs.on (GN.alloc _)) hn HA.o).mono ?_;rintro e ab ⟨rfl,rfl⟩;clear s2;generalize oh ((s.data.toList.drop k).take n)=v at *;by_cases bC:v<0
 ·have bh:=ae (D.trans (if_pos bC));have aN:decide (v<0)=true:=by simpa using bC
  clear D;go_wp2
  go_ret3
  exact iQ.bad bh.o (b0.below.trans (((Below.refl _ _).alloc (Gb _) _).mono b0.below.size))
 have bh:=ae (D.trans (if_neg bC));have aN:decide (v<0)=false:=by simpa using bC
 clear D bC;go_upto_region 28 with(fail);generalize ah:World.alloc wr _=X;have r:qQ wr X 2 v k:=by
  rw[←ah];exact⟨(Below.refl _ _).alloc (Gb _) _,GO,by simp⟩
 clear ah;have P:=ae r;obtain⟨bD,bE,b5⟩:=r.blk.two;clear r;by_cases bo:acc.length=4000
 ·have c7:((acc.length:Int) == 4000)=true:=by simp;omega
  have V:(acc.length == 4000)=true:=by simp;omega
  have aZ:=ae (bh.trans (if_pos bo));clear bo;go_wp2
  go_ret3
  exact sG
 have c7:((acc.length:Int) == 4000)=false:=by simp;omega
 have V:(acc.length == 4000)=false:=by simp;omega
 have aZ:=ae (bh.trans (if_neg bo));have T:=ae bo;clear bo;have K:eG X b o cap s:=bs.Cg P.below;have aW:=fun W=>f6 (b:=b) (o:=o) M u hn W;have c3:=jb K (k:=k) (n:=n) (cap - k) hn;have ay:=ae K;clear K;go_upto_region 31 with(fail);generalize cb:World.setCell X _ _=Y;have N:Below wr.heap.size wr Y:=cb▸P.below.setCell (p:=⟨wr.heap.size,1,none⟩) (Gb _) _;have al:ag Y wr.heap.size 203 #[.int .i64 2,.string (s.extract k (k+n)),.int .i64 v,.int .i64 k]:=cb▸P.blk.aH 1 _;obtain⟨bA,af,aj⟩:=al.two;have x:=ae N;clear cb N al bD bE b5 aW c3;go_wp2_with ((at_builtin;refine dM Y nD rfl (.tmp 119) (.tmp 121) rfl w.heap.size _ _ _ #[.int .i64 2,.string (s.extract k (k+n)),.int .i64 v,.int .i64 k] rfl (cn b0.own x.o) rfl rfl (by simp[Value.oneCell']) ad ad (Gu b0.below.size x.size) ?_;intro v2 cJ d an G;obtain⟨A2,c2,rfl,R,_⟩:=bT d));have aB:Below w.heap.size w cJ:=gZ (b0.below.trans (x.mono b0.below.size)) (cn b0.own x.o) an (Gb _) (Gu b0.below.size x.size);have L:=ai aB d;clear aB d an G bA af aj;have g:=jL s b o cap (k+n) cJ (H.Cg L.1) hn;rw[Int.natCast_add] at g;refine g.mono ?_;clear g;rintro e ab ⟨rfl,rfl⟩;obtain⟨F,bF,az,b7,bK,cB⟩:=lC s (k+n) hn;rw[cB];have a8:=ai b7 bK;clear b7 bK cB;go_wp2;go_roundw
 case rel=>
  refine⟨F,acc++[⟨2,(s.data.toList.drop k).take n,v,(k:Int)⟩],rfl,b0.next (m:=k+n) ?_ T.o ad hn (b0.B3.trans aZ.o) L.1 bF az a8.1 a8.2⟩;exact sH
 case measure=>simp[intOf];omega
 ):p:=h
theorem dL{p:Prop}(h:p:=by
 rw[if_neg (by first|omega|(simp only[ByteArray.size_append];omega)|(simp;omega))]
 ):p:=h
theorem CY{p:Prop}(h:p:=by
 rintro a1 aj j bF ⟨aC,t,aq,gI,ba⟩;obtain⟨bD,bE,b5⟩:=aq.two;refine ak ?_;refine aY rfl (fun K hK=>?_) rfl;go_simp;refine hK _ _ ?_;clear hK K
 try simp only[PU]
 refine bU ?_;generalize bo:World.setCell _ _ _=iy;have hH:wr.heap.size≤aj:=ad;obtain⟨bA,bw,bb⟩:=dA (M:=fun b=>b=S.heap.size+1) [.string ((⟨#[112]⟩:ByteArray)++strOf [byteOf bv]),.bool _] (by rfl) aq t hH bo;obtain⟨hY,bA⟩:∃hY,ag iy aj 142 #[.string ((⟨#[112]⟩:ByteArray)++strOf [byteOf bv]),.bool hY]:=⟨_,bA⟩
 rw[A1 ad aZ.o] at bA;have jy:=b9.blk.lt;have jt:=bW.2.2.1.lt;have bM:=cA (aC.ch bb fun b O h=>ad) (bW.2.1.trans bw) (bW.2.2.1.on bw ad) (bW.2.2.2.cZ bw (fun b O _=>⟨fun h=>h,ad⟩)) bA;have cf:cu.heap.size+1+1≤iy.heap.size:=by have:=bw.size;omega
 clear bo bA bw bb aC t aq bD bE b5;obtain⟨fn,bK,dr⟩:=bM.2.2.1.two;obtain⟨bD,bE,b5⟩:=bM.2.2.2.2.two;go_wp2_with (at_builtin;refine bS DY rfl (.tmp 167) (.tmp 169) rfl bM.2.2.2.1 (qx.2 rfl:(cW (rB m,hY)).rep iy _ _) rfl rfl rfl ad ad cf ?_;intro js iI iB iz c2 iY iX;have gk:=bM.2.2.1.on c2 (fun O=>by have:=(bM.2.2.2.1.lt O).1;omega);have hh:=ai iz c2;clear fn bK dr iz c2 iY iX bD bE b5;obtain⟨fn,bK,dr⟩:=gk.two;clear gk);generalize ah:World.setCell _ _ _=iA;have cd:∀b,(Value.slice PA pn pc).ownBlock=some b→cu.heap.size+1+1≤b:=fun b O=>(bM.2.2.2.1.lt O).1;have g5:Fr (fun b=>b=cu.heap.size+1) iB iA:=ah▸(Fr.refl (fun b=>b=cu.heap.size+1) iB).setCell (.inl rfl) _;have bT:ag iA (cu.heap.size+1) 140 #[.string (hv i),.slice js (pn+1) iI,.slice none 0 0]:=ah▸(bM.2.2.1.on hh.2 (fun O=>by have:=cd _ O;omega)).aH 1 _;have g6:=(bM.1.ch hh.2 fun b O h=>by have:=cd b h;omega).ch g5 fun b O h=>ad;have a2:Fr (fun b=>b=S.heap.size+1) cu iA:=(bM.2.1.eg (hh.2.below bM.2.1.size fun k ap h=>by have:=cd k h;omega)).eg (g5.below (kk bM.2.1.size hh.2.size) fun k ap h=>ad);have hW:=hh.1.cZ g5 fun b O _=>⟨fun h=>h,ad⟩
 have hR:=bO g6 a2 bT hW;clear ah g5 bT g6 a2 hW fn bK dr cd;obtain⟨b3,aU⟩:∃b3,m=b3+1:=⟨m - 1,ad⟩
 have bn:(m:Int) - 1=((b3:Nat):Int):=ad;go_roundw
 case rel=>
  refine⟨b3,js,pn+1,iI,ps++[(rB m,hY)],by first|(rw[bn])|(congr 1)|go_num,ad,ad,fun h=>ad,fun h=>?_,hR.1,hR.2.1,hR.2.2.1,by rw[Gi];exact hR.2.2.2⟩;have ac:=gl.2 h;rw[aU] at ac;rw[aU,←ac];simp[dS]
 case measure=>simp[intOf];omega
 ):p:=h
theorem CZ{p:Prop}(h:p:=by
 go_wp2_with (fail);refine(aN _ s A n c l 2 H1.1 ad ad).mono ?_;rintro e aQ ⟨bZ,rfl,I,bt,h,he⟩;have bk:=ai h (H1.2.trans he.fr);clear h he;by_cases az:bZ=1
 ·have aR:(bZ == 1)=true:=by simpa using az
  clear az I bt;go_wp2_with (fail);refine(aN _ s A n c l aF bk.1 ad ad).mono ?_;rintro e bJ ⟨cz,rfl,L,bz,h,he⟩;have bH:=ai h (bk.2.trans he.fr);clear h he;obtain⟨j,rfl⟩:=Gg L;obtain⟨b,o,nm,cs,rfl,O,hm,aX,hl,hc⟩:=Sl.fJ (enc:=D.s) (z:=1) (aj.2.1.on bH.2) (fun _=>rfl) (k:=j) ad;have am:cs=[.string nm]:=by simpa only[D.rep] using aX
  subst am;have c0:=hc 0 _ rfl;simp only[Nat.mul_one,Gl] at c0;have bP:=aj.2.2.2.1.on bH.2 (fun h=>by have:=aj.2.2.2.2;omega);have aZ:=ae bP;obtain⟨e0,bl,a5⟩:=bP.two;have ax:=ae (Ge hm);clear aX hl hc hm bP;go_wp2_with (fail);generalize cb:World.setCell _ _ _=Y;obtain⟨bA,bw,bb⟩:=dA (M:=fun b=>b=s) [.int .i64 2,.int .i64 0,.string nm,.slice none 0 0] (by rfl) aZ.o (aj.2.2.1.trans bH.2) (Gb _) cb;obtain⟨bx,bd,be⟩:=bA.two;refine GM (v:=.agg #[.int .i64 2,.int .i64 0,.string nm,.slice none 0 0]) (by simp[results,Tryz.results123,go_sem,bx]) rfl ?_;exact⟨.ga nm,none,0,0,rfl,(by cases d<;>exact ax.o),Gb _,Sl.bu _,bH.1.ch bb (fun b O h=>by have:=aj.2.2.2.2;omega),bw⟩
 ·have aR:(bZ == 1)=false:=by simpa using az
  clear az I bt;go_wp2_with (fail);refine(kL _ s A n c l bk.1).mono ?_;rintro e bJ ⟨cz,rfl,L,bz,h,he⟩;have bH:=ai h (bk.2.trans he.fr);exact xO
 ):p:=h
theorem C0{p:Prop}(h:p:=by
 exact xO
 ):p:=h
theorem C1{p:Prop}(h:p:=by
 clear bp aM bQ m ds b7 bN;go_wp2_with (fail);refine(cW.o c6.o _ H1.1 (aj.2.1.on H1.2)).mono ?_;rintro e aQ ⟨x,b4,b2,cu,rfl,hx,aG,bh,h,he⟩;have bk:=ai h (H1.2.trans he);have aU:=bO hx aG bh he;have bP:=aj.2.2.2.1.on bk.2 (fun h=>by have:=aj.2.2.2.2;omega);have aZ:=ae bP;obtain⟨e0,bl,a5⟩:=bP.two;clear h he hx aG bh bP;go_wp2_with (fail);generalize cb:World.setCell _ _ _=Y;have bT:Y.heap.size=aQ.heap.size:=by rw[←cb];simp
 obtain⟨bA,bw,bb⟩:=dA (M:=fun b=>b=s) [.int .i64 _,.int .i64 0,.string ⟨#[]⟩,.slice (some ⟨aQ.heap.size,0,none⟩) 1 1] (by rfl) aZ.o (aj.2.2.1.trans bk.2) (Gb _) cb;generalize bo:World.alloc _ _=Z;have bm:=bA.alloc (.cells #[.int .i64 x.aU,.int .i64 x.numOf,.string x.aZ,.slice b4 b2 cu] 55);rw[bo] at bm;have g:ag Z aQ.heap.size 55 #[.int .i64 x.aU,.int .i64 x.numOf,.string x.aZ,.slice b4 b2 cu]:=bo▸ag.bR _ _ _ bT.symm;have a9:Fr (fun b=>b=s) w Z:=bo▸bw.alloc _;have bn:Fr (fun b=>b=w.heap.size) aQ Z:=bo▸bb.alloc _;obtain⟨bx,bd,be⟩:=bm.two;obtain⟨hx,aG,bh,he⟩:=aU.o;have b0:=aj.2.2.2.2;obtain⟨bN,b7⟩:=r.o;have bq:=he.size;have bC:=g.lt;refine GM (v:=.agg #[.int .i64 _,.int .i64 0,.string ⟨#[]⟩,.slice (some ⟨aQ.heap.size,0,none⟩) 1 1]) (by simp[results,Tryz.results123,go_sem,bx];rfl) rfl ?_;have i:Sl Z (fresh w Z) b4 b2 (x.args.map a4):=(bh.ao fun b O=>bn.block b O.2 (aB O.1)).mono fun b O=>⟨by have:=O.1;omega,Gc O.2 bn.size⟩
 refine⟨.un _ x,some ⟨aQ.heap.size,0,none⟩,1,1,rfl,?_,Gb _,Sl.qn g (D.bH.2 (aV.2 ⟨b4,b2,cu,rfl,aG,i⟩)) ⟨ad,bC⟩ rfl,bk.1.ch bn (fun b O h=>ad),a9⟩;have:=c6.o;obtain⟨aP,rfl⟩:∃aP,d=aP+1:=⟨d - 1,ad⟩
 exact⟨by decide,hx⟩
 ):p:=h
theorem zQ{p:Prop}(h:p:=by
 rintro e aQ ⟨bb,rfl,U,aO⟩;have bk:=ai U (bh.1.trans aO);clear U aO
 cases bb with
 | true=>
  go_wp2_with (fail);go_ret
  exact⟨(i:Int),rfl,⟨fun _=>⟨_,Ge bT.o,bk.1.1 (by first|rfl|trivial)⟩,fun _=>ad⟩,bk.2⟩
 | false=>
  go_wp2_with (fail);go_roundw
  case rel=>
   refine⟨i+1,by go_num,ad,bk.2,fun j x ba hx=>?_⟩;by_cases G:j<i
   ·exact bh.2 j x G hx
   ·obtain rfl:j=i:=ad;rw[bT.o] at hx;injection hx with hx;subst hx;exact fun h=>by have:=bk.1.2 h;first|cases this|exact this
  case measure=>simp[intOf];omega
 ):p:=h
theorem uc{p:Prop}(h:p:=by
 go_wp2;go_roundw
 case rel=>exact⟨k+1,ad,by go_num,by rw[←aL.o],bh.trans (z.trans bp.o)⟩
 case measure=>simp[intOf];omega
 ):p:=h
theorem ud{p:Prop}(h:p:=by
 have aZ:=ae (show decide (S=T)=true from decide_eq_true (by
  apply List.ext_getElem?
  intro j;by_cases ba:j<k
  ·exact aO.o j ba
  ·rw[List.getElem?_eq_none (aB b0.o),List.getElem?_eq_none (aB ak.o)]))
 go_wp2;go_ret;exact⟨ret_bool (by rw[aZ.o]),O⟩
 ):p:=h
theorem C2{p:Prop}(h:p:=by
 have aG:(0:Int)≤(k:Int):=ad;have bF:(k:Int)<(n:Int):=ad;by_cases hd:x=d
 ·have aU:=ae (show S[k]?=T[k]? by rw[hx,a,hd]);have C:(x != d)=false:=by simp[hd]
  exact xU
 ·have aZ:=ae (show decide (S=T)=false from decide_eq_false (fun h=>by
   subst h;rw[hx] at a;injection a with a;exact hd a))
  have C:(x != d)=true:=by simp[hd]
  exact x9
 ):p:=h
theorem C3{p:Prop}(h:p:=by
 exact xU
 ):p:=h
theorem C4{p:Prop}(h:p:=by
 have c0:=Z 0 b8 rfl;have c1:=Z 1 b2 rfl;have c2:=Z 2 bu rfl;have c3:=Z 3 bA rfl;simp only[Gl] at c0;have aN:b<wr.heap.size:=O;clear Z O;obtain⟨B,bR,bc,e,cP,cf⟩:=aV.1 Q;simp only[List.cons.injEq,and_true] at e;obtain⟨rfl,rfl,rfl,rfl⟩:=e;have bM:=ae a3;have F:=ae Q;clear a3 Q cf;go_wp2_with (fail);refine(cW.o k z bM.o _ _ _ _ _ _ wr F.o).mono ?_;rintro e aQ ⟨rfl,bE⟩;have aW:=ae (bh.trans bE);have bk:=ae (a4.al bE);clear bE;exact x8
 ):p:=h
theorem C5{p:Prop}(h:p:=by
 rintro e aQ ⟨bb,rfl,U,aO⟩;have bk:=ai U ((bh.1.trans bM.o).trans aO);clear U aO bD bE b5 b8 an ar
 cases bb with
 | false=>
  go_wp2_with (fail);go_ret;refine⟨false,rfl,⟨fun h=>(by cases h),fun h=>?_⟩,bk.2⟩;have ac:=bT.1;rw[h,bT.2] at ac;injection ac with ac
  exact bk.1.2 ac.symm
 | true=>
  go_wp2_with (fail);go_roundw
  case rel=>
   refine⟨i+1,by go_num,ad,bk.2,fun j ba=>?_⟩;by_cases G:j<i
   ·exact bh.2 j G
   ·obtain rfl:j=i:=ad;rw[bT.1,bT.2,bk.1.1 (by first|rfl|trivial)]
  case measure=>simp[intOf];omega
 ):p:=h
theorem C6{p:Prop}(h:p:=by
 go_wp2_with (fail);refine(show Calls prog 141 #[.pointer (some ⟨g,0,none⟩),.string ⟨#[40]⟩] w _ from ly [40] g A n c T k deep w H.o bT.1 ad).mono ?_;rintro e aH ⟨rfl,U,hF⟩;have H1:=ai U hF;clear U hF;go_wp2_with (fail);refine(show Calls prog 114 #[.pointer (some ⟨g,0,none⟩),.string ⟨#[41]⟩] aH _ from df [41] g A n c T (k+1) deep aH H1.1 true bT.2 (fun _=>ad)).mono ?_;rintro e aQ ⟨rfl,U,hF⟩;have bk:=ai (show b1 aQ g A n c T (k+2) deep from by simpa using U) (H1.2.trans hF);clear U hF H1;go_wp2_with (fail);go_ret;exact⟨rfl,bk.o⟩
 ):p:=h
theorem zR{p:Prop}(h:p:=by
 clear av L;go_wp2_with (fail);go_ret;refine⟨-1,rfl,⟨fun h=>ad,fun⟨x,hx,hp⟩=>?_⟩,bh.1⟩;obtain⟨j,ba⟩:=List.getElem?_of_mem hx;exact absurd hp (bh.2 j x (by have:=(List.getElem?_eq_some_iff.1 ba).1;have:=bB.1;omega) ba)
 ):p:=h
theorem zS{p:Prop}(h:p:=by
 go_wp2_with (fail);refine cW.mono ?_;rintro e aQ ⟨r,rfl,aX,aO⟩;have bk:=ai aX aO;clear aX aO;go_wp2_with (fail);go_ret;exact⟨decide (r≥0),rfl,⟨fun h=>bk.1.1 (of_decide_eq_true h),fun h=>decide_eq_true (bk.1.2 h)⟩,bk.2⟩
 ):p:=h
theorem C7{p:Prop}(h:p:=by
 rw[bo bT.o,ou,←Gq,Gi,bv];have ac:=(an.cz (ab:=X) bV.size fun b ao hp=>bV.block b ao fun he=>by
  subst he;rcases hp with hp|hp
  ·exact hp.elim
  ·exact cE.1 hp).cz (ab:=bE) aJ.size fun b ao hp=>aJ.block b ao fun he=>by
  subst he;rcases hp with hp|hp
  ·exact hp.elim
  ·exact cE.2 hp
 show Gr (fun _=>False) W.heap.size 149 3 bE A2 (ln+k+1) c2 _
 simpa using ac
 ):p:=h
theorem C8{p:Prop}(h:p:=by
 go_wp2_with (fail);generalize cb:World.setCell _ _ _=Y;obtain⟨bA,bw,bb⟩:=dA (M:=fun _=>False) [.slice none 0 0,.slice none 0 0,.slice none 0 0] (by rfl) a8.2.2.1 (w:=w) a8.1 ad cb;obtain⟨bx,bd,be⟩:=bA.two;refine GM (v:=.tuple #[.agg #[.slice none 0 0,.slice none 0 0,.slice none 0 0],.int .i64 11]) (by simp[results,Tryz.results26,go_sem,bx]) rfl ?_;exact⟨_,_,_,_,_,_,_,_,_,_,rfl,bw⟩
 ):p:=h
theorem C9{p:Prop}(h:p:=by
 go_wp2_with (at_builtin;refine dM aQ jt rfl (.tmp 28) (.tmp 30) rfl (w.heap.size+1) _ k _ #[_] rfl a5.o rfl rfl (by simp[Value.oneCell']) ad ad cf ?_;intro r bJ f bo ay;obtain⟨cl,c3,rfl,bK,_⟩:=bT f);go_roundw
 case rel=>
  refine⟨k+1,ad,by go_num,q.on (D6 a5.o bo fun g aM=>aM),?_⟩;rw[tJ S.o,←aL.o];exact f
 case measure=>simp[intOf];omega
 ):p:=h
theorem Da{p:Prop}(h:p:=by
 rintro a7 bo ⟨rfl,ar⟩;have aK:=ae (X.trans ar);have aY:=ae (aL.trans ar);have N:=ae (L.al ar);have bs:=ae (bs.al ar);clear a0 al af X aL L;obtain⟨a0,al,af⟩:=bs.two;clear a0 al af;obtain⟨a0,al,af⟩:=bs.two;go_wp2;go_roundw
 case rel=>exact⟨j+1,ad,by go_num,aK.o,aY.o,N.o⟩
 case measure=>simp[intOf];omega
 ):p:=h
theorem zT{p:Prop}(h:p:=by
 constructor
 ·rintro⟨y,rfl,h⟩;rw[a9] at h;obtain⟨bu,rfl,h⟩:=h;rw[aM] at h;subst h;rfl
 ·rintro rfl;exact⟨_,rfl,a9.2 ⟨_,rfl,aM.2 rfl⟩⟩
 ):p:=h
theorem qS{p:Prop}(h:p:=by
 go_wp2;go_ret;exact⟨ret_bool (by rw[aZ.o]),O⟩
 ):p:=h
theorem ue{p:Prop}(h:p:=by
 go_wp2;go_roundw
 case rel=>exact⟨k+1,ad,by go_num,by rw[←aL.o],bp.o⟩
 case measure=>simp[intOf];omega
 ):p:=h
theorem qT{p:Prop}(h:p:=by
 go_enter func54,ntmps54;go_wp2_with (fail);go_ret;exact⟨rfl,GN.alloc _⟩
 ):p:=h
theorem ug{p:Prop}(h:p:=by
 generalize (Value.agg #[.int .i64 x.aU,.int .i64 x.numOf,.string x.aZ,.slice b4 b2 cu])=Y;intro bn;exact key a1 Y _ bn
 ):p:=h
theorem Db{p:Prop}(h:p:=by
 rintro e aG ⟨rfl,he⟩;have aW:=ae (bp.trans he);have q:=ae (l.trans he);have bk:=ae (G.al he);clear he a0 al af bp l G;obtain⟨a0,al,af⟩:=bk.two;go_wp2;refine wp_loop_rounds 1 ?_;rw[rounds_succ];go_wp2;go_roundw
 case rel=>exact⟨k+1,ad,by go_num,aW.o⟩
 case measure=>simp[intOf];omega
 ):p:=h
theorem uh{p:Prop}(h:p:=by
 rcases O with O|O
 ·rw[O] at hc;exact aN.2.2 hc
 ·rw[O] at hc;injection hc with hc;have:=aN.2.1;omega
 ):p:=h
theorem Dc{p:Prop}(h:p:=by
 exact x8
 ):p:=h
theorem ui{p:Prop}(h:p:=by
 refine fin _ fun s hs=>?_;rcases Gt.1 hs with rfl|hs
 ·exact⟨c,c⟩
 ·exact aa.2 s hs
 ):p:=h
theorem Dd{p:Prop}(h:p:=by
 go_wp2;go_roundw
 case rel=>
  refine⟨k+1,ad,by go_num,fun j C ba a=>?_,aN.alloc cf _⟩;by_cases u:j<k
  ·exact aO.o j C u a
  ·obtain rfl:j=k:=ad;rw[aU.o] at a;injection a with a;rw[←a];exact bw.o
 case measure=>simp[intOf];omega
 ):p:=h
theorem De{p:Prop}(h:p:=by
 exact x9
 ):p:=h
theorem uj{p:Prop}(h:p:=by
 go_wp2;go_roundw
 case rel=>exact⟨k+1,ad,by go_num,b6.o⟩
 case measure=>simp[intOf];omega
 ):p:=h
theorem zU{p:Prop}(h:p:=by
 obtain⟨A,n,c,ac,J,aS⟩:=h.ex;exact⟨Gc h.lt O.size,A,n,c,ac,(O.cell h.lt (fun h=>h)).trans J,aS.on (Fr.ext O)⟩
 ):p:=h
theorem zV{p:Prop}(h:p:=by
 simp only[D.aL,D.rep];constructor
 ·rintro⟨x,y,rfl,rfl,h⟩;exact⟨y,rfl,h⟩
 ·rintro⟨y,rfl,h⟩;exact⟨_,y,rfl,rfl,h⟩
 ):p:=h
theorem Df{p:Prop}(h:p:=by
 unfold fQ at h;rw[bw,eE] at h;obtain⟨y,rfl,h⟩:=h;obtain⟨x,bu,rfl,hx,a3⟩:=dJ.1 h;obtain⟨A,n,c,rfl,hc,hs⟩:=iz.1 hx;rw[D.bH] at a3;obtain⟨A2,c2,rfl⟩:=eA.1 a3;exact⟨_,A,n,c,_,_,rfl,hx⟩
 ):p:=h
theorem EO{p:Prop}(h:p:=by
 intro hm;rcases hm with hm|hm|hm
 ·have:=HA.lt;omega
 ·have:=(HA.rows.one.lt hm).2;omega
 ·have:=(HA.rows.two.lt hm).2;omega
 ):p:=h
theorem Dg{p:Prop}(h:p:=by
 exact yd
 ):p:=h
theorem o3{p:Prop}(h:p:=by
 generalize wr.heap.size=aj;intro av;exact key a1 aj j _ av
 ):p:=h
theorem EP{p:Prop}(h:p:=by
 by_cases ac:i=0
 ·exact⟨0,ad,by rw[gl.1 ac];rfl⟩
 ·have J:m=0:=by
   by_cases aS:0<m
   ·exact absurd ⟨aS,ad⟩ ao
   ·omega
  have aS:=gl.2 ac;rw[J] at aS;exact⟨hO,an,by simpa [dS] using aS⟩
 ):p:=h
theorem Dh{p:Prop}(h:p:=by
 rcases h with⟨m,hm,_,ac,J⟩|⟨_,hp⟩
 ·by_cases bv:0<m.size
  ·obtain⟨l,a,hs⟩:=ac bv;rw[aJ] at a;injection a with a;subst a;exact hs
  ·rw[J bv] at aJ;cases aJ
 ·rw[hp] at aJ;cases aJ
 ):p:=h
theorem Di{p:Prop}(h:p:=by
 clear av L;go_wp2_with (fail);go_ret;refine⟨true,rfl,⟨fun _=>List.ext_getElem? fun j=>?_,fun _=>rfl⟩,bh.1⟩;exact x7
 ):p:=h
theorem qU{p:Prop}(h:p:=by
 go_wp2;go_ret;exact⟨ret_bool (by rw[aZ.o]),aN.alloc cf _⟩
 ):p:=h
theorem Dj{p:Prop}(h:p:=by
 have co:((n:Int) != (m:Int))=true:=by simp;omega
 have ax:=ae I;clear I;go_wp2_with (fail);go_ret;exact⟨false,rfl,⟨fun h=>(by cases h),fun h=>absurd (by rw[←bB.1,←bB.2.1,h]) ax.o⟩,GN⟩
 ):p:=h
theorem Dk{p:Prop}(h:p:=by
 obtain⟨b2,rfl,ac⟩:=a9.1 h;obtain⟨bu,rfl,J⟩:=a9.1 ac;obtain⟨bA,rfl,aS⟩:=a9.1 J;obtain⟨A,n,c,I,rfl,hc,hs,bo⟩:=aJ.1 aS;rw[aM] at bo;subst bo;exact⟨A,n,c,rfl,hc,hs⟩
 ):p:=h
theorem Dl{p:Prop}(h:p:=by
 have aZ:=nw fg cE.1 cE.2 gU gV dw rg ro;clear fg gU gV dw rg ro an ch cT cC cE bV z aJ bH c0 bw a2;go_wp2;go_roundw
 case rel=>exact⟨k+1,A2,c2,ad,by go_num,aZ.o⟩
 case measure=>simp[intOf];omega
 ):p:=h
theorem Dm{p:Prop}(h:p:=by
 unfold cW;rw[bw,ca];constructor
 ·rintro⟨y,rfl,h⟩;rw[eE] at h;obtain⟨bu,rfl,h⟩:=h;rw[aM] at h;subst h;rfl
 ·rintro rfl;exact⟨_,rfl,eE.2 ⟨_,rfl,aM.2 rfl⟩⟩
 ):p:=h
theorem zW{p:Prop}(h:p:=by
 have hle:=(Fr.aE ar).size;clear hV ar;generalize aH.heap.size=cG at *;exact key cG V ⟨S,aT,hle⟩
 ):p:=h
theorem Dn{p:Prop}(h:p:=by
 have:b=.sg [41]:=by
  simp[dH] at O;exact O.symm
 subst this;refine⟨fun h=>by simp[Atom.jo] at h,fun s hs _ c hc=>?_⟩;injection hs with hs;subst hs;simp[Atom.head] at hc;subst hc;decide
 ):p:=h
theorem Dp{p:Prop}(h:p:=by
 apply List.ext_getElem?
 intro j;rw[List.getElem?_map,List.getElem?_map];by_cases ba:i=j
 ·subst ba;rw[List.getElem?_set_self (List.getElem?_eq_some_iff.1 aw).1,aw];rfl
 ·rw[List.getElem?_set_ne ba]
 ):p:=h
theorem Dq{p:Prop}(h:p:=by
 have ac:=e1.size;exact⟨fun O=>by
  rcases b3 _ O with h|h
  ·exact(I _ h).2.1 rfl
  ·omega,fun O=>by
  rcases b3 _ O with h|h
  ·exact(I _ h).2.2 rfl
  ·omega⟩
 ):p:=h
theorem Dr{p:Prop}(h:p:=by
 have co:(a2 == dh)=false:=by simpa using e1
 have bB:=ae e1;clear e1;go_wp2_with (fail);go_ret;exact⟨false,rfl,⟨fun h=>(by cases h),fun h=>absurd (c6.1 h).1 bB.o⟩,aj.1⟩
 ):p:=h
theorem ER{p:Prop}(h:p:=by
 rw[k3];exact(a8.2.2.2.2.1.ao fun b O=>aw.block b O.2 (kk O.1 aZ.2.1.lt)).mono fun b O=>⟨by have:=O.1;have:=aZ.2.1.lt;omega,by have:=O.2;have:=aw.size;omega⟩
 ):p:=h
theorem Ds{p:Prop}(h:p:=by
 simp only[Gx,Atom.bytes,Gs,GG];unfold eV;simp only[g,cz,cj,GL,if_false,k];rw[if_neg ad,if_neg ad];exact aa _
 ):p:=h
theorem uk{p:Prop}(h:p:=by
 go_wp2;go_ret;exact⟨ret_bool (by rw[aZ.o]),Below.refl _ _⟩
 ):p:=h
theorem ES{p:Prop}(h:p:=by
 rw[k3];exact(a8.2.2.2.2.1.ao fun b O=>aw.block b O.2 (kk O.1 aZ.2.1.lt)).mono fun b O=>⟨by have:=O.1;omega,by have:=O.2;have:=aw.size;omega⟩
 ):p:=h
theorem um{p:Prop}(h:p:=by
 exact hg.mk' R.o (by rw[b0.o];exact I) O bW.o
 ):p:=h
theorem ET{p:Prop}(h:p:=by
 have:=bf.2.2.1
 cases d with
 | zero=>exact this.elim
 | succ cH=>exact⟨cH,rfl⟩
 ):p:=h
theorem uo{p:Prop}(h:p:=by
 rw[aM] at aS;subst aS;exact⟨A,n,c,rfl,hc,hs⟩
 ):p:=h
theorem Dt{p:Prop}(h:p:=by
 have n:=ae e1;clear e1;go_wp2_with (fail);go_ret;exact⟨false,rfl,⟨fun h=>(by cases h),fun h=>absurd (c6.1 h).1 (aB n.o)⟩,aj.1⟩
 ):p:=h
theorem Du{p:Prop}(h:p:=by
 refine⟨_,_,_,_,_,rfl,?_,bw.drew⟩;rw[bo.o];refine dY.2 ⟨none,0,0,rfl,Gb _,?_⟩;simp only[aJ];exact Sl.bu _
 ):p:=h
theorem r8{p:Prop}(h:p:=by
 go_wp2;go_ret;exact⟨ret_int (by rw[aZ.o];rfl),GN.alloc _⟩
 ):p:=h
theorem r9{p:Prop}(h:p:=by
 exact⟨_,rfl,aJ.2 ⟨A,n,c,[],rfl,hc,hs,aM.2 rfl⟩⟩
 ):p:=h
theorem wg{p:Prop}(h:p:=by
 simp only[Gk] at O ⊢;rcases O with O|O|O
 ·exact .inl O
 ·exact .inr (.inl O)
 ·exact .inr (.inr (.inr O))
 ):p:=h
theorem pT{p:Prop}(h:p:=by
 go_wp2;go_ret;exact⟨ret_bool aZ.symm,aW.o⟩
 ):p:=h
theorem wh{p:Prop}(h:p:=by
 unfold ff;rw[bw];exact ca.2 ⟨_,rfl,aJ.2 ⟨none,0,0,[],rfl,Gb _,Sl.bu _,aM.2 rfl⟩⟩
 ):p:=h
theorem wi{p:Prop}(h:p:=by
 rw[←hV];exact⟨((GN.alloc _).alloc _).drew,(GO).alloc _,ag.bR _ _ _ (by simp),ad,ad,ad⟩
 ):p:=h
theorem wj{p:Prop}(h:p:=by
 go_wp2_with (fail);go_ret;exact⟨false,rfl,⟨fun h=>(by cases h),fun h=>absurd (by rw[aO.1 h]) u.o⟩,aD.o⟩
 ):p:=h
theorem wk{p:Prop}(h:p:=by
 clear aj;conv=>arg 2;whnf
 go_wp2
 try refine i _ _ ?_
 unfold oU
 iterate 248 apply Exists.intro
 exact⟨aF.o,rfl⟩
 ):p:=h
theorem sa{p:Prop}(h:p:=by
 go_wp2;go_ret;exact⟨ret_int (by rw[a4.o]),Below.refl _ _⟩
 ):p:=h
theorem wm{p:Prop}(h:p:=by
 rw[D.bH] at a3;obtain⟨A2,c9,c2,rfl,_,_⟩:=aV.1 a3;exact⟨_,_,_,_,_,_,_,_,rfl,a3⟩
 ):p:=h
theorem wo{p:Prop}(h:p:=by
 generalize (Value.agg (o.val lK))=Y;generalize (Value.agg (dN.val (iE oX)))=z;intro F;exact key aj z Y _ F
 ):p:=h
theorem wq{p:Prop}(h:p:=by
 go_wp2;go_roundw
 case rel=>exact⟨k+1,cl,c3,ad,by go_num,aZ.o⟩
 case measure=>simp[intOf];omega
 ):p:=h
theorem sb{p:Prop}(h:p:=by
 have:=(List.getElem?_eq_some_iff.1 hm).1;simp at this;omega
 ):p:=h
theorem wu{p:Prop}(h:p:=by
 exact Fr.low (M:=fun b=>b=S.heap.size+1+1) ((ac.mono fun _ h=>h.elim).trans aq) fun k ap=>ad
 ):p:=h
theorem wv{p:Prop}(h:p:=by
 rcases cj with cj|cj
 ·rw[cj] at O;exact .inl O
 ·rw[cj] at O;injection O with O;right;omega
 ):p:=h
theorem wx{p:Prop}(h:p:=by
 obtain⟨bu,rfl,h⟩:=h;rw[a9] at h;obtain⟨bA,rfl,h⟩:=h;rw[aM] at h;subst h;rfl
 ):p:=h
theorem wy{p:Prop}(h:p:=by
 cases j with
 | zero=>simp[mO] at ba;exact⟨rfl,ba.symm⟩
 | succ j=>simp[mO] at ba
 ):p:=h
theorem wz{p:Prop}(h:p:=by
 exact(kj.cons (.cons (.cons (.app (.cons (.nl (l:=[]) fun a h=>by simp at h)))))).2 a aV
 ):p:=h
theorem wA{p:Prop}(h:p:=by
 simp only[VE.aU,VE.numOf,VE.aZ] at *;go_wp2;go_ret;exact⟨ret_str bB.o,bh.o⟩
 ):p:=h
theorem wB{p:Prop}(h:p:=by
 clear bi b3;go_wp2;go_ret;refine⟨ret_bool ?_,O⟩;rw[aZ.o,d.o,cO.o];simp
 ):p:=h
theorem wC{p:Prop}(h:p:=by
 conv=>lhs;rw[←cM ch]
 simp only[ByteArray.append_assoc,ah];simp
 ):p:=h
theorem wD{p:Prop}(h:p:=by
 by_cases ac:0<m
 ·exact .inr ⟨ac,fun h=>ao ⟨ac,h⟩⟩
 ·exact .inl ac
 ):p:=h
theorem wE{p:Prop}(h:p:=by
 have ac:=bB.1;have J:=a4.2;simp only[Gh,GC,J];exact ac
 ):p:=h
theorem wF{p:Prop}(h:p:=by
 go_wp2;go_ret;exact⟨none,0,rfl,World.ownsRow_nil _ _ _ _,Below.refl _ _⟩
 ):p:=h
theorem wG{p:Prop}(h:p:=by
 simp only[aj.ef,ay.decl,CJ,GF];cases d<;>exact Iff.rfl
 ):p:=h
theorem wH{p:Prop}(h:p:=by
 intro x hx;obtain⟨j,ba⟩:=List.getElem?_of_mem hx;simpa using h j x ba
 ):p:=h
theorem wI{p:Prop}(h:p:=by
 exact j4 _ _ _ _ _ (by rw[k2];omega) (by rw[k2];omega)
 ):p:=h
theorem wJ{p:Prop}(h:p:=by
 clear hm;go_wp2;go_ret;exact⟨ret_int (by rw[aZ.o];rfl),av.alloc _⟩
 ):p:=h
theorem wK{p:Prop}(h:p:=by
 simp[go_sem];by_cases h:a=c<;>by_cases J:b=d<;>simp[h,J]
 ):p:=h
theorem DQ{p:Prop}(h:p:=by
 have ac:=bf.2.2.2.2.2.1;have J:=bt g bf.2.2.2.2.1;simp at ac;omega
 ):p:=h
theorem wL{p:Prop}(h:p:=by
 simp only[cK,count_nil,bh,ck,dW];omega
 ):p:=h
theorem h1{p:Prop}(h:p:=by
 clear aT bb a5 cF d6 Z d4 dc gK;have cN:¬eD=wr.heap.size:=ad;have cE:¬g=wr.heap.size:=ad;go_wp2;refine eh (fun b=>b=wr.heap.size) [(0,3),(1,3),(2,3),(3,0),(4,3),(5,3),(6,3),(7,0),(8,1),(9,1),(10,3)] ?_
 iterate 3 refine pf ?_
 refine ow ?_
 iterate 3 refine pf ?_
 refine ow ?_;refine uQ ?_;refine aA rfl (fun K hK=>?_);go_simp;generalize hV:World.drew (World.alloc _ _)=V;have t:Ext wr V:=hV▸(GN.alloc _).drew;have dJ:ag V wr.heap.size 175 #[.int .i64 s.kind,.string s.name,.int .i64 eo,.int .i64 en,.string es,.slice EA em ec,.string rs,.slice bH bC rc,.slice cC n1 c1,.slice A2 bl c2,.slice cl cn c3]:=hV▸(GO).drew;refine hK _ _ (D7 (GN.alloc _).drew t (by simp) (by rw[←hV];simp)) ?_;clear hK K
 try simp only[PU]
 refine pf ?_;refine aD ?_;have dq:=ae dJ;have dp:=HA.al t;have dL:=dr.trans (Mv.gP t);obtain⟨e9,bh,bv,fb,bB,bR,e7,eX,iE,bP,_⟩:=dp.blk;have bs:=ae t;have ek:=ae dp;have er:=ae dL;clear hV t a7 am aE a6 ca aP cx dd de dm dn ee ef dj cN cE d5 dp dL dJ;obtain⟨a7,am,aE⟩:=bP.two;clear bP;go_upto_region 6 with(fail);generalize ah:World.setCell _ _ _=X;obtain⟨db,cX⟩:=ek.stmt (X:=X) (by rw[←ah,Int.natCast_add];rfl);have bV:Fr (fun b=>b=g) V X:=ah▸(Fr.refl (fun b=>b=g) V).setCell (.inl rfl) _;have bz:=dq.on bV (aB HA.lt);have br:Ext wr V:=bs.o;have z:=ae db;have cZ:=ae (er.trans cX);have cK:=ae ((Mv.gP br).trans cX);have eF:o.length≤100000:=ad;have eM:=ck;have bf:=ub bd bu aJ hS bx a1 ck ce bG;obtain⟨fa,e0,eZ,fc,e6,e5,e8,eY,eW,cf,_⟩:=db.blk;have gI:=cf.lt;clear ah bV a7 am aE db cX br bd bu aJ hS bx dq;exact h2
 ):p:=h
theorem gw{p:Prop}(h:p:=by
 intro p b1 B d8 cp ps V T ls N S L W bc QA ch qc bP be o u au on bj eN h0 cl cd aT c1 bi bu bR wr hC b8 hV dS bX c2 bB dw bM bW co cr ej Q hQ0 cj K hK;intros
 obtain⟨s,wb,bN,bG,bq,sl,GA,gn,gc,MA,mn,mc,FA,fn,fc,M,F,ar⟩:=p;have a2:=h0.ne;have b0:=h0.src.lt;have cz:=h0.blk.lt;have ca:be.length=ba:=by have:=bR.one.len;simpa using this
 simp only at cl a2 b0 cz;have bg:∀b,(b=s∨b=wb)→b<B:=fun b O=>by rcases O with O|O<;>omega
 have cK:=bR.names bg;have cq:ag wr b1 140 #[.string bc,.slice QA ch qc,bP]:=c1.on hC.fr (fun h=>by rcases h with h|h<;>(simp only at h;omega));obtain⟨a0,al,af⟩:=hC.blk.two;obtain⟨a7,am,aE⟩:=cq.two;obtain⟨a6,aL,aP⟩:=b8.two;have aF:=dz h0 c1 bi bR cK bg;have bs:=aK hC cq b8;have cg:=aK hV bX dw;have bd:=aK bW co cr;have b9:S.heap.size≤wr.heap.size:=hC.fr.size;clear h0 c1 bi bR cK hC cq b8 hV bX dw bg bW co cr;conv=>arg 2;whnf
 conv at hK=>enter [a,w,1,2];whnf
 exact gx
 ):p:=h
theorem h3{p:Prop}(h:p:=by
 intro cp U nk F b G d l n st code sites g B bj ln lc aV bX bI bq A m c w a8 cW eL bO eN dA k y ab aM L W o u bn av cr Y an aS be wr ao aq bd bu aJ hS bx a1 ck ce bG bb a5 c6 hQ0;intros
 conv=>arg 2;whnf
 have ap:k≤m:=ad;obtain⟨bc,bE,aN,cO,ea,cS,cj,dE,b6,aT,_⟩:=bb.blk;obtain⟨eD,e4,s,cs,rfl,d4,b8,cF,gK,Z⟩:=(a8.ch a5).fJ lW ao;have d6:(aW s).rep wr (au wr) cs:=D.aP (fun _ h=>h.1) _ _ cF;obtain⟨eo,en,es,EA,em,ec,rs,bH,bC,rc,cC,n1,c1,A2,bl,c2,cl,cn,c3,rfl,dc⟩:=kd cF;have a6:=Z 0 _ rfl;have ca:=Z 1 _ rfl;have aP:=Z 2 _ rfl;have cx:=Z 3 _ rfl;have dd:=Z 4 _ rfl;have de:=Z 5 _ rfl;have dm:=Z 6 _ rfl;have dn:=Z 7 _ rfl;have ee:=Z 8 _ rfl;have ef:=Z 9 _ rfl;have dj:=Z 10 _ rfl;simp only[Gl] at a6;have d5:eD<wr.heap.size:=d4.1;have b0:=Ge b8;exact h4
 ):p:=h
theorem wM{p:Prop}(h:p:=by
 clear bz;have cm:=ae aG;obtain⟨a0,al,af⟩:=aG.two;clear aG;have hd:∃cH,d=cH+1:=by
  exact ET
 obtain⟨cH,hd⟩:=hd;subst hd;have bA:=bf.2.2.1;have aC:=bf.2.2.2.1.fx 2 ex bA.1;have M:=bA.2.1;have cU:=dQ (U:=U) (nk:=nk) th cH y ab aM L (o++[hP (bt y ex) 0]) M bf.2.2.2.1;have dR:=bf.2.2.2.2.2.1;have dX:=bf.2.2.2.2.2.2.2.1;have dU:=bf.2.2.2.2.2.2.2.2;have d7:=bf.2.1;simp only[aj.num] at dR dX dU d7;have bQ:(a4 ex).rep X (au X) [.int .i64 eo,.int .i64 en,.string es,.slice EA em ec]:=D.aP (fun _ h=>h.1) _ _ (D.ch (d:=a4 ex) aZ.expr cK.o);go_wp2_with (fail);refine(fp y ex aC g (W:Int) _ _ _ _ _ _ _ z.L bQ).mono ?_;rintro e aH ⟨dS,co,s1,dg,cM,cJ,rfl,bo,ar⟩;have S:=z.al ar;have aL:=g3 z.o bo;clear bQ bo;go_wp2_with (fail);refine(fu S (hP (bt y ex) 0) (W:Int) (lU aL) ad ad).mono ?_;rintro e aQ ⟨rfl,bM,bY,ci,cD,cg,c4⟩;have b4:Mv g (.slice Y o.length an) (.slice aS u.length be) aH (.slice bM (o++[hP (bt y ex) 0]).length bY) (.slice ci (u++[(W:Int)]).length cD) aQ:=by rw[Gd,Gd];exact c4
 have ac:=(Mv.gP (g:=g) (cv:=.slice Y o.length an) (sv:=.slice aS u.length be) ar).trans b4;have dY:¬Ms g (.slice Y o.length an) (.slice aS u.length be) wr.heap.size:=by
  exact EO
 obtain⟨bD,dZ⟩:=cm.ch dY ac;have dM:=Sl.ch (l:=cL th) aZ.th (cK.trans ac);have d3:=ae (cZ.trans ac);have du:=ae (cK.trans ac);have ct:=ae cg;have bk:=ae bD;clear c4 b4 ac a0 al af a7 am aE S aL ar cg;obtain⟨a0,al,af⟩:=bD.two;clear bD;go_wp2_with (fail);refine((show kT U nk F th from dt.1) G cH y ab aM L (W+1) (o++[hP (bt y ex) 0]) (u++[(W:Int)]) g B bn av cr bM bY ci cD A2 bl c2 aQ M bf.2.2.2.1 bf.2.2.2.2.1 eL.o ct.o dM (by simp only[Gd,Gm];omega) (by simp only[Gd,Gm];omega) ad ad ad).mono ?_;rintro e bJ ⟨rfl,cV,bF,cY,c7,j,cB,cP,c5⟩;exact sc
 ):p:=h
theorem wN{p:Prop}(h:p:=by
 have a6:=Z 0 _ rfl;have ca:=Z 1 _ rfl;have aP:=Z 2 _ rfl;have cx:=Z 3 _ rfl;have dd:=Z 4 _ rfl;have de:=Z 5 _ rfl;have dm:=Z 6 _ rfl;have dn:=Z 7 _ rfl;have ee:=Z 8 _ rfl;have ef:=Z 9 _ rfl;have dj:=Z 10 _ rfl;simp only[Gl] at a6;exact wO
 ):p:=h
theorem wP{p:Prop}(h:p:=by
 try simp only[PU]
 refine bj (v:=?_) rfl (by rfl) (fun V=>?_) ?_;rotate_left
 ·go_simp;exact dL
 try simp only[PU]
 refine bj (v:=?_) rfl (by rfl) (fun V=>?_) ?_;rotate_left
 ·go_simp;exact dL
 try simp only[PU]
 exact wQ
 ):p:=h
theorem DR{p:Prop}(h:p:=by
 rintro aj j an bF ⟨t,aC,aq,gI,g,bI,bh,bv,H,aV,aI,rfl,bJ,bZ⟩;obtain⟨bD,bE,b5⟩:=aq.two;refine ak ?_;refine aY rfl (fun K hK=>?_) rfl;go_simp;refine hK _ _ ?_;clear hK K
 try simp only[PU]
 refine bU ?_;generalize bo:World.setCell _ _ _=Z;obtain⟨bm,a9,bn⟩:=dA (M:=fun b=>b=s) [.string g.name,.slice bI bh bv,.slice H aV aI] (by rfl) aq t gI bo;have bl:S.heap.size<X.heap.size:=aU.2.1.lt;have ck:s<X.heap.size:=ad;have bT:bV Z s bN bG bq sl:=aC.ch bn fun b O h=>ad;have bA:=aU.1.next a2 bT a9;have bf:=dz bA (aU.2.1.on a9 ad) (aU.2.2.1.on a9 ad) bm bJ bZ;have cb:¬aj=s:=ad;have bC:=a9.size;clear bo bm a9 bn bT bA bJ bZ t aC aq bD bE b5;obtain⟨a7,am,aE⟩:=bf.2.2.1.two;obtain⟨bD,bE,b5⟩:=bf.2.2.2.1.two;have b6:¬b1=s:=ad;have bS:bh≤2:=by
  exact DQ
 go_upto_region 28 with(fail);refine eh (fun b=>b=s) [(0,3),(1,0),(2,3),(3,0),(4,0),(5,3),(7,3),(6,1),(8,2),(9,3),(10,2)] ?_;refine pf ?_;refine ow ?_;refine pf ?_
 iterate 2 refine ow ?_
 iterate 2 refine pf ?_
 refine aA rfl (fun K hK=>?_);go_simp;refine(vR ⟨s,wb,bN,bG,bq,sl,GA,gn,gc,MA,mn,mc,_,fn,fc,M,F,ar⟩ L be o ba u bc ps QA ch qc bP g.name g.params bI bh bv (.slice H aV aI) Z.drew ((bf.1.al a2 GN.drew).wr aF.1) ((Sl.cZ aF.2.2.2.2.1 (bf.1.al a2 GN.drew).fr).mono fun b O=>⟨O.1,fun h=>O.2 (.inl h)⟩) ad ((Sl.cZ aF.2.2.1 (bf.1.al a2 GN.drew).fr).mono fun b O=>⟨O.1,fun h=>O.2 (.inl h)⟩) bu ((Sl.cZ bf.2.2.2.2.2 (bf.1.al a2 GN.drew).fr).mono fun b O=>⟨O.1,fun h=>O.2 (.inl h)⟩) bS).mono ?_;rintro e aQ ⟨aO,KA,k,kc,rfl,aJ,aX,cx,aC,t⟩;simp only at aJ aC t;have ao:Fr (fun b=>b=s) Z aQ:=Fr.aE t;have l:=bf.2.1.on ao ad;have aZ:=dz (bf.1.next a2 aC ao) l aJ aX cx ao.size;have bw:=ae bf.2.2.2.2.1;have b4:X.heap.size≤Z.drew.heap.size:=bC;refine hK _ _ (t) ?_;clear hK K
 try simp only[PU]
 clear a7 am aE bD bE b5 t aC cx aX aJ ao;obtain⟨a6,aL,aP⟩:=l.two;exact wR
 ):p:=h
theorem wS{p:Prop}(h:p:=by
 refine eh (fun b=>b=s) [(0,3),(1,3),(3,3),(4,0),(5,3),(6,3),(7,3),(9,3),(2,1),(8,2),(10,2),(11,3),(12,2),(13,3),(14,2)] ?_
 iterate 3 refine pf ?_
 refine ow ?_
 iterate 4 refine pf ?_
 refine aA rfl (fun K hK=>?_);go_simp;refine(iM ⟨s,wb,bN,bG,bq,sl,GA,gn,gc,MA,mn,mc,FA,fn,fc,M,F,ar⟩ L be o ba u wr.drew ((bs.1.al a2 GN.drew).wr aF.1) ((Sl.cZ aF.2.2.2.2.1 (bs.1.al a2 GN.drew).fr).mono fun b O=>⟨O.1,fun h=>O.2 (.inl h)⟩) ad).mono ?_;rintro e aH ⟨x,b4,b2,cu,rfl,hx,aG,bh,h,he⟩;simp only at h he;have t:Fr (fun b=>b=s) wr aH:=Fr.aE he;have an:=bs.2.2.on t ad;have aZ:=gK (bs.1.next a2 h t) an hx aG bh t.size (bs.2.1.on t Z);refine hK _ _ (he) ?_;clear hK K
 try simp only[PU]
 clear an hx aG bh h he t a0 al af a7 am aE a6 aL aP;refine ax rfl (fun K hK=>?_);go_simp
 first
  | rw[j.2,show IntKind.i64.wrap ((i:Nat):Int)=((i:Nat):Int) from IntWalk.i64_in _ ad]
  | rw[j.2]
 refine(cg.2.2 L ad i 3 be (T++decls ls) o ba u bc ps QA ch qc bP aH ad ad (aZ.1.wr aF.1) (Sl.cZ aF.2.2.2.2.1 aZ.1.fr) ad (fun k ap=>cg.2.1 k ad) (Sl.cZ aF.2.2.1 aZ.1.fr) bu).mono ?_;rintro e aQ ⟨v,aX,m,ak,cx,rfl,R,bn,b7,bp,ao⟩;have H:¬(S.heap.size=s∨S.heap.size=wb):=ad;have l:=aZ.2.1.on ao H;have aO:=aZ.2.2.2.2.2.2.on ao (fun h=>by rcases h with h|h<;>(simp only at h;omega));have dq:aX≤L:=R.le;have a8:=gK (aZ.1.Cf bp ao) l R bn b7 ao aO;clear R bn b7 bp ao aO;obtain⟨a6,aL,aP⟩:=l.two;clear l;refine hK _ _ ?_;clear hK K
 try simp only[PU]
 refine ax rfl (fun K hK=>?_);go_simp;refine hK _ _ ?_;clear hK K
 try simp only[PU]
 refine pf ?_;refine ax rfl (fun K hK=>?_);go_simp;refine hK _ _ ?_;clear hK K
 try simp only[PU]
 refine pf ?_;refine ax rfl (fun K hK=>?_);exact wT
 ):p:=h
theorem sd{p:Prop}(h:p:=by
 go_enter func142,ntmps142;go_upto_region 8 with(fail);generalize bg:World.alloc _ _=W;have av:Ext w W:=bg▸(GN.alloc _).alloc _;have aI:ag W w.heap.size 175 (kP 0 ⟨#[]⟩ ⟨#[]⟩).toArray:=bg▸(GO).alloc _;have r:ag W (w.heap.size+1) 175 (kP 0 ⟨#[]⟩ ⟨#[]⟩).toArray:=bg▸ag.bR _ _ _ (by simp);have aF:GU (wc w W g A n c T k deep (kP 0 ⟨#[]⟩ ⟨#[]⟩)):=ae ⟨H.al av,av.mono fun _ h=>h.elim,aI,r⟩;clear bg av aI r;go_wp2_with (fail);refine(show Calls prog 114 #[.pointer (some ⟨g,0,none⟩),.string ⟨#[118,97,114]⟩] W _ from df [118,97,114] g A n c T k deep W aF.ps false (by first|exact bT.1|exact fB bT.1 (by decide)) (fun h=>by first|omega|cases h)).mono ?_;rintro e aH ⟨rfl,U,hF⟩;have H1:=ae (aF.on cc (show b1 aH g A n c T (k) deep from by simpa using U) hF);clear U hF;clear aF;go_wp2_with (fail);exact se
 ):p:=h
theorem wU{p:Prop}(h:p:=by
 refine o2 (fun b=>b=S.heap.size+1) [14] (.free 0 (.free 1 (.free 2 (.free 6 (.free 7 (.free 8 (.held 9 (.pick [3,10,13] (fun i=>bif i == 3 then .held 4 (.free 5 (.pick [10,13] (fun i=>bif i == 10 then .free 11 (.free 12 (.pick [13] (fun _=>.pick [14] (fun _=>.stop)))) else .pick [10] (fun _=>.free 11 (.free 12 (.pick [14] (fun _=>.stop))))))) else bif i == 10 then .free 11 (.pick [3,13] (fun i=>bif i == 3 then .held 4 (.free 5 (.free 12 (.pick [13] (fun _=>.pick [14] (fun _=>.stop))))) else .pick [3] (fun _=>.held 4 (.free 5 (.free 12 (.pick [14] (fun _=>.stop))))))) else .pick [3,10] (fun i=>bif i == 3 then .held 4 (.free 5 (.pick [10] (fun _=>.free 11 (.free 12 (.pick [14] (fun _=>.stop)))))) else .free 11 (.pick [3] (fun _=>.held 4 (.free 5 (.free 12 (.pick [14] (fun _=>.stop)))))))))))))))) ?_
 iterate 6 refine tf ?_
 refine mE ?_;clear a0 al af;exact wV
 ):p:=h
theorem wW{p:Prop}(h:p:=by
 have bl:=bs.2.2.lt;have I:∀b,wr.heap.size≤b→¬(b=s∨b=wb):=fun b O h=>ad;have a3:S.heap.size≤aH.heap.size:=by have:=aZ.2.2.2.2.2.1;omega
 have br:Sl X (fresh S X) b4 b2 (x.args.map a4):=(aZ.2.2.2.2.1.ao fun b O=>(aw.block b (kk O.2 a8.2.2.2.2.2.1.size) (by have:=O.1;have:wr.drew.heap.size=wr.heap.size:=rfl;omega)).trans (a8.2.2.2.2.2.1.block b O.2 (I b O.1))).mono fun b O=>⟨by have:=O.1;have:wr.drew.heap.size=wr.heap.size:=rfl;omega,by have:=O.2;have:=a8.2.2.2.2.2.1.size;have:=aw.size;omega⟩
 have a9:Sl X (fresh S X) m ak (cL (.ef v)):=by
  exact ES
 have bo:Sl X (fun b=>S.heap.size<b∧b<X.heap.size) b4 b2 (x.args.map a4):=(aZ.2.2.2.2.1.ao fun b O=>(aw.block b (kk O.2 a8.2.2.2.2.2.1.size) (by have:=O.1;have:wr.drew.heap.size=wr.heap.size:=rfl;omega)).trans (a8.2.2.2.2.2.1.block b O.2 (I b O.1))).mono fun b O=>⟨by have:=O.1;have:wr.drew.heap.size=wr.heap.size:=rfl;omega,by have:=O.2;have:=a8.2.2.2.2.2.1.size;have:=aw.size;omega⟩
 have a1:Sl X (fun b=>S.heap.size<b∧b<X.heap.size) m ak (cL (.ef v)):=by
  exact ER
 have av:=ai bo a1;clear bo a1;have ab:=a8.1.fresh aF.1 aw fun b O=>ad;have bb:=a8.2.2.2.2.2.2.on aw ad;have aU:=cA ab bz bb br a9;clear ah a6 aL aP aw bz ab bb br a9;exact wX
 ):p:=h
theorem dN{p:Prop}(h:p:=by
 refine ax rfl (fun K hK=>?_);go_simp;refine hK _ _ ?_;clear hK K
 try simp only[PU]
 refine aD ?_;exact di
 ):p:=h
theorem sf{p:Prop}(h:p:=by
 generalize b2 th y L (o++[hP (bt y ex) 0])=p at *;obtain⟨a2,bU⟩:=p;obtain⟨⟨eT,cQ,dy,_⟩,a9,cA⟩:=cU;simp only[] at cB cP c5 cQ a9 cA az;have d2:o.length+1≤a2.length∧a2.length≤o.length+1+2*th.num:=by rw[cQ];simp only[Gd,Gm];omega
 obtain⟨eH,eI⟩:=d2;clear cQ dy;have df:=ae (d3.trans c5);have dv:=ae (du.trans c5);obtain⟨bL,d0⟩:=bk.ch dZ c5;have bK:=ae bL;have c9:=ae cP;clear c5 cP a0 al af;obtain⟨a0,al,af⟩:=bL.two;clear bL;exact si
 ):p:=h
theorem wY{p:Prop}(h:p:=by
 go_upto_region 1 with(fail);generalize bg:World.alloc _ _=W;have av:Ext w W:=bg▸(((GN.alloc _).alloc _).alloc _).alloc _;have b1:ag W w.heap.size 30 #[.slice GA gn gc,.slice MA mn mc,.slice PA pn pc,.int .i64 u.main]:=bg▸(((GO).alloc _).alloc _).alloc _;have ca:ag W (w.heap.size+1) 40 #[.slice bI bG bq,.slice TA tn tc,.slice HA hn hc,.int .i64 s.fault]:=bg▸((ag.bR _ _ _ (by simp)).alloc _).alloc _;have aX:ag W (w.heap.size+2) 60 #[.int .i64 x.op,.int .i64 x.target,.bool x.da,.int .i64 eo,.int .i64 en,.string es,.slice EA em ec,.bool x.place.param,.int .i64 x.place.index,.slice QA qm qc,.slice cZ j cN,.slice KA db kc]:=bg▸(ag.bR _ _ _ (by simp)).alloc _;have b6:ag W (w.heap.size+3) 40 #[.slice none 0 0,.slice none 0 0,.slice none 0 0,.int .i64 0]:=bg▸ag.bR _ _ _ (by simp);have aj:=nw av b1 ca aX b6 (cg.1.on av) (cg.2.1.on av) (cg.2.2.on av);obtain⟨a0,al,af⟩:=b1.two;obtain⟨a7,am,aE⟩:=ca.two;obtain⟨a6,aL,aP⟩:=aX.two;clear bg av b1 ca aX b6 cg;go_wp2_with (fail);exact wZ
 ):p:=h
theorem sj{p:Prop}(h:p:=by
 clear hK K
 try simp only[PU]
 refine pf ?_;refine ax rfl (fun K hK=>?_);go_simp;refine hK _ _ ?_;clear hK K
 try simp only[PU]
 exact pU
 ):p:=h
theorem h5{p:Prop}(h:p:=by
 refine ax rfl (fun K hK=>?_);go_simp;refine hK _ _ ?_;clear hK K
 try simp only[PU]
 exact h6
 ):p:=h
theorem w0{p:Prop}(h:p:=by
 rintro e bJ ⟨⟨bc,bE,aN,a3,m,L,bF,o,a2⟩,rfl,ch,ay⟩;have cI:=ae ch;have b5:=(aj.2.2.2.2.1.al bp.o).al ay;have aZ:=ai b5 ((aj.1.trans bp.o).trans ay);clear ch ay a7 am aE a6 aL aP;obtain⟨bx,bd,be⟩:=b5.two;clear b5;go_wp2_with (fail);generalize ah:World.setCell _ _ _=Z;exact w1
 ):p:=h
theorem ny{p:Prop}(h:p:=by
 go_wp2;refine⟨?_,by simp[np,intOf];omega⟩;unfold me
 iterate 240 apply Exists.intro
 refine⟨?_,rfl⟩;unfold u1;obtain⟨bd,bu,aJ,hS,bx,a1,ck,ce,bG⟩:=bf.o;exact kt
 ):p:=h
theorem w2{p:Prop}(h:p:=by
 have ak:=bW;obtain⟨aY,bm,aF,aI,⟨eu,aK⟩,Q⟩:=ak.target (b:=o.length) (by simp only[Gd,Gm];omega) (((a2.length+1:Nat):Int));subst bm;obtain⟨ei,dH,dG,eq,eb,d9,eg,dF,dD,O,_⟩:=bW.blk
 try simp only[Gd,Gm] at O
 have aO:((o.length:Nat):Int)<(a2.length:Int)+1:=ad;have T:=ae Q;have dx:=ae bW;clear Q ak;obtain⟨a7,am,aE⟩:=O.two;clear O;go_wp2;refine eh (fun _=>False) [(0,3),(1,3),(2,3),(3,0),(4,3),(5,3),(6,3),(7,3),(8,0),(9,3),(10,3),(11,3),(12,2)] ?_
 iterate 3 refine pf ?_
 refine ph ?_
 iterate 4 refine pf ?_
 refine ph ?_
 iterate 3 refine pf ?_
 exact w3
 ):p:=h
theorem gy{p:Prop}(h:p:=by
 refine ak ?_;refine aY rfl (fun K hK=>?_) rfl;go_simp;refine hK _ _ ?_;clear hK K
 try simp only[PU]
 exact gz
 ):p:=h
theorem w4{p:Prop}(h:p:=by
 have ab:=bs.1.fresh aF.1 aw fun b O=>ad;have bb:=bs.2.1.on aw ad;have aU:=bO ab bz bb aw.size;clear ah a0 al af a7 am aE a6 aL aP aw bz ab bb;obtain⟨a0,al,af⟩:=aU.1.blk.two;refine o2 (fun b=>b=s) [19] (.free 0 (.free 1 (.free 2 (.free 3 (.held 4 (.free 5 (.free 6 (.free 7 (.held 8 (.free 9 (.free 10 (.free 11 (.free 12 (.held 13 (.free 14 (.pick [15,18] (fun i=>bif i == 15 then .free 16 (.held 17 (.pick [18] (fun _=>.pick [19] (fun _=>.stop)))) else .pick [15] (fun _=>.free 16 (.held 17 (.pick [19] (fun _=>.stop))))))))))))))))))))) ?_
 iterate 4 refine tf ?_
 refine mE ?_
 iterate 3 refine tf ?_
 refine mE ?_
 iterate 4 refine tf ?_
 refine mE ?_;refine tf ?_;clear a0 al af;exact w5
 ):p:=h
theorem w6{p:Prop}(h:p:=by
 go_wp2_with (fail);refine(lJ ⟨s,wb,bN,bG,bq,sl,GA,gn,gc,MA,mn,mc,FA,fn,fc,M,F,ar⟩ L be o ba u bc ps QA ch qc bP wr (bs.1.wr aF.1) ((Sl.cZ aF.2.2.2.2.1 bs.1.fr).mono fun b O=>⟨O.1,fun h=>O.2 (.inl h)⟩) ad ((Sl.cZ aF.2.2.1 bs.1.fr).mono fun b O=>⟨O.1,fun h=>O.2 (.inl h)⟩) bu).mono ?_;rintro e aQ ⟨r,IA,i,ic,rfl,aJ,Z,aa,aC,t⟩;simp only at aJ aC t;have l:=bs.2.2.on t ad;have aZ:=dz (bs.1.next a2 aC t) l aJ Z aa t.size;clear a0 al af a7 am aE a6 aL aP aJ Z aa aC t;obtain⟨a6,aL,aP⟩:=l.two;clear l;go_wp2_with (fail);generalize ah:World.setCell _ _ _=X;exact w7
 ):p:=h
theorem fM{p:Prop}(h:p:=by
 go_upto_region 1 with(fail);generalize bg:World.alloc _ _=W;have av:Ext w W:=bg▸(GN.alloc _).alloc _;exact fN
 ):p:=h
theorem w8{p:Prop}(h:p:=by
 go_simp;refine hK _ _ ?_;clear hK K
 try simp only[PU]
 refine aD ?_;generalize ah:World.setCell _ _ _=X;have aw:Fr (fun b=>b=S.heap.size) aQ X:=ah▸((((((Fr.refl (fun b=>b=S.heap.size) aQ).setCell (.inl rfl) _).setCell (.inl rfl) _).setCell (.inl rfl) _).setCell (.inl rfl) _).setCell (.inl rfl) _).setCell (.inl rfl) _;exact w9
 ):p:=h
theorem nz{p:Prop}(h:p:=by
 obtain⟨az,b3,aG,e,bS,hs⟩:=aV.1 aX;simp only[List.cons.injEq,Value.int.injEq,Value.string.injEq,Value.slice.injEq,and_true,true_and] at e;obtain⟨rfl,rfl,rfl,rfl,rfl,rfl⟩:=e;exact nA
 ):p:=h
theorem xa{p:Prop}(h:p:=by
 clear bz;have cm:=ae aG;obtain⟨a0,al,af⟩:=aG.two;clear aG;have aU:=(show pN G ab r by have:=bf.2.2.1;cases d<;>exact this.1)
 have j:=bf.2.2.2.1.oC r aU;have bQ:(jB r).rep X (au X) [.string rs,.slice bH bC rc]:=D.aP (fun _ h=>h.1) _ _ (D.ch (d:=jB r) aZ.ref cK.o);go_wp2_with (fail);refine(cp g y U.af r j (W:Int) rs bH bC rc _ z.L z.M_ bQ).mono ?_;rintro e aH ⟨ds,du,b4,b2,cu,rfl,bo,ar⟩;have S:=z.al ar;have aL:=g3 z.o bo;clear bQ j bo;go_wp2_with (fail);exact xb
 ):p:=h
theorem pV{p:Prop}(h:p:=by
 have aZ:=ae (show decide (S=T)=false from decide_eq_false (fun h=>a2 (by rw[←hl,←bR,h])));have s:(n != bl)=true:=by simpa using a2
 have l:((n:Int) != (bl:Int))=true:=by simp;omega
 clear hl bR a2;exact pW
 ):p:=h
theorem xc{p:Prop}(h:p:=by
 clear bz;have cm:=ae aG;obtain⟨a0,al,af⟩:=aG.two;clear aG;have ct:=(show ∃ps,(nm,ps)∈G.funcs∧hN G ab ps aO by have:=bf.2.2.1;cases d<;>exact this.1)
 obtain⟨ps,bi,P⟩:=ct;obtain⟨v,f,aw,Q,h0,J,rfl⟩:=bf.2.2.2.2.1 nm ps bi;have N:=bf.2.2.2.1.ie _ _ P;have M:ij y nm=v.n:=by simp[ij,aw]
 have cL:=eL.o f (Ge J);have r:Sl X (au X) cC n1 (aO.map fQ):=(Sl.ch (l:=aO.map fQ) aZ.args cK.o).mono (fun _ h=>h.1);go_wp2_with (fail);exact xd
 ):p:=h
theorem iS{p:Prop}(h:p:=by
 go_upto_region 1 with(fail);generalize bg:World.alloc _ _=W;have av:Ext w W:=bg▸((GN.alloc _).alloc _).alloc _;exact iT
 ):p:=h
theorem iU{p:Prop}(h:p:=by
 obtain⟨a7,am,aE⟩:=aT.two;have HA:=ae bb;have dr:=ae a5;have aZ:=ae dc;have dt:=ae (cW.o s b0);exact h7
 ):p:=h
theorem gA{p:Prop}(h:p:=by
 go_upto_region 1 with(fail);generalize bg:World.alloc _ _=W;have av:Ext w W:=bg▸GN.alloc _;exact gB
 ):p:=h
theorem h8{p:Prop}(h:p:=by
 obtain⟨a7,am,aE⟩:=cf.two;clear cf;simp only[aj.list,List.cons.injEq] at b3;obtain⟨rfl,bS⟩:=b3;exact h9
 ):p:=h
theorem xe{p:Prop}(h:p:=by
 generalize hV:World.alloc _ _=V;have t:Ext wr V:=hV▸GN.alloc _;have bp:=ae (bh.trans t);have G:=ae (a4.al t);have hC:ag V wr.heap.size 140 #[.string f.name,.slice PA pn pc,.slice f4 bn bc]:=hV▸GO;have bs:=ae hC;have gl:=ae (bi.on (Fr.ext t));have dE:=ae (b1.on (Fr.ext t));clear hV a0 al af c0 c1 c2 aN bh a4 t bi b1;obtain⟨a0,al,af⟩:=hC.two;clear hC;exact xf
 ):p:=h
theorem xg{p:Prop}(h:p:=by
 clear ah a6 aL aP HA;go_wp2_with (fail);refine(show Calls prog 141 #[.pointer (some ⟨g,0,none⟩),.string ⟨#[59]⟩] X _ from ly [59] g A n c T (k+1+1) deep X aU.ps bT.2.2.2.2 ad).mono ?_;rintro e j ⟨rfl,U,hF⟩;have bf:=ae (aU.on cc U hF);clear U hF aU;obtain⟨a6,aL,aP⟩:=bf.s.two;obtain⟨bx,bd,be⟩:=bf.r.two;simp only[kP] at a6;go_wp2_with (fail);generalize ah:World.setCell _ _ _=V;exact xh
 ):p:=h
theorem nB{p:Prop}(h:p:=by
 try refine cj _ _ ?_
 unfold js;refine⟨o,ba,u,au,on,bj,?_⟩
 iterate 240 apply Exists.intro
 refine⟨?_,rfl⟩;exact ku
 ):p:=h
theorem sk{p:Prop}(h:p:=by
 have aM:=h.g;have hm:=h.m;have aw:=h.f;have dA:p.globals.length=gn:=by rw[←aM.1,Gf]
 have lm:p.af.length=mn:=by rw[←hm.1,Gf]
 have lf:p.funcs.length=fn:=by rw[←aw.1,Gf]
 exact sn
 ):p:=h
theorem DS{p:Prop}(h:p:=by
 generalize cb:World.setCell _ _ _=Y;obtain⟨bA,bw,bb⟩:=dA (M:=fun b=>b=s) [.int .i64 x.aU,.int .i64 x.numOf,.string x.aZ,.slice b4 b2 cu] (by rfl) a4.o bk.2 (Gb _) cb;obtain⟨bx,bd,be⟩:=bA.two;exact xi
 ):p:=h
theorem xj{p:Prop}(h:p:=by
 refine(show Calls prog 114 #[.pointer (some ⟨g,0,none⟩),.string ⟨#[103,111]⟩] aH _ from df [103,111] g A n c T k deep aH H1.ps false (by first|exact bT.1|exact fB bT.1 (by decide)) (fun h=>by first|omega|cases h)).mono ?_;rintro e aQ ⟨rfl,U,hF⟩;have bk:=ae (H1.on cc (show b1 aQ g A n c T (k) deep from by simpa using U) hF);clear U hF;clear H1;go_wp2_with (fail);exact xk
 ):p:=h
theorem so{p:Prop}(h:p:=by
 refine hK _ _ ?_;clear hK K
 try simp only[PU]
 iterate 3 refine tf ?_
 refine ak ?_;refine dU ?_;generalize hV:World.alloc _ _=V;have aT:ag V aH.heap.size 149 #[.string ⟨#[]⟩,.int .i64 0,.int .i64 0]:=hV▸GO;exact sq
 ):p:=h
theorem xl{p:Prop}(h:p:=by
 refine o2 (fun _=>False) [6,11] (.free 0 (.free 1 (.free 2 (.held 3 (.free 4 (.held 5 (.pick [6,10] (fun i=>bif i == 6 then .free 7 (.free 8 (.free 9 (.pick [10] (fun _=>.pick [11] (fun _=>.free 12 (.stop)))))) else .pick [6] (fun _=>.free 7 (.free 8 (.free 9 (.pick [11] (fun _=>.free 12 (.stop)))))))))))))) ?_
 iterate 3 refine tf ?_
 refine th ?_;refine tf ?_;refine th ?_;exact xm
 ):p:=h
theorem sr{p:Prop}(h:p:=by
 obtain⟨aS,dl,cE,rfl,cQ,cF⟩:=aV.1 Q;have c0:=Z 0 _ rfl;have c1:=Z 1 _ rfl;have c2:=Z 2 _ rfl;have c3:=Z 3 _ rfl;simp only[Gl] at c0;have aN:b<wr.heap.size:=O;exact ss
 ):p:=h
theorem xn{p:Prop}(h:p:=by
 go_upto_region 7 with(fail);generalize bg:World.alloc wr _=W;have F:Ext wr W:=bg▸GN.alloc _;have aT:ag W wr.heap.size 175 #[.int .i64 s.kind,.string s.name,.int .i64 eo,.int .i64 en,.string es,.slice EA em ec,.string rs,.slice bH bC rc,.slice cC n1 c1,.slice A2 bl c2,.slice cl cn c3]:=bg▸GO;exact xo
 ):p:=h
theorem xp{p:Prop}(h:p:=by
 have b1:ag W w.heap.size 55 #[.int .i64 x.aU,.int .i64 x.numOf,.string x.aZ,.slice A m c]:=bg▸(GO).alloc _;have cq:ag W (w.heap.size+1) 55 #[.int .i64 0,.int .i64 0,.string ⟨#[]⟩,.slice none 0 0]:=bg▸ag.bR _ _ _ (by simp);have cH:W.heap.size=w.heap.size+2:=by rw[←bg];simp
 clear bg;exact xq
 ):p:=h
theorem xr{p:Prop}(h:p:=by
 try simp only[PU]
 refine cY rfl (by rfl) ?_
 try simp only[PU]
 refine cY rfl (by rfl) ?_
 try simp only[PU]
 refine cY rfl (by rfl) ?_
 try simp only[PU]
 refine g7 rfl (by rfl) ?_
 try simp only[PU]
 refine cY rfl (by rfl) ?_
 try simp only[PU]
 refine g7 rfl (by rfl) ?_
 try simp only[PU]
 exact xt
 ):p:=h
theorem su{p:Prop}(h:p:=by
 go_wp2;refine⟨?_,by simp[np,intOf];omega⟩;unfold me
 iterate 240 apply Exists.intro
 refine⟨?_,rfl⟩;unfold u1;obtain⟨_,bu,aJ,hS,bx,a1,ck,ce,bG⟩:=bf.o;exact sw
 ):p:=h
theorem sx{p:Prop}(h:p:=by
 have ce:l.length=n:=by have:=hl.1;simpa using this
 have aC:k.length=m:=by have:=ap.1;simpa using this
 have bB:=aK ce aC H;have a8:=ai hl ap;clear ce aC H hl ap;exact sy
 ):p:=h
theorem sA{p:Prop}(h:p:=by
 unfold fQ at h;rw[bw,eE] at h;obtain⟨y,rfl,h⟩:=h;obtain⟨x,bu,rfl,hx,a3⟩:=dJ.1 h;unfold ff at hx;rw[bw,ca] at hx;obtain⟨z,rfl,hx⟩:=hx;exact sB
 ):p:=h
theorem pX{p:Prop}(h:p:=by
 have cN:gn≤16:=by have:=hp.mB;omega
 have cE:mn≤12:=by have:=hp.ti;omega
 have dM:fn≤16:=by have:=hp.AT;omega
 exact pY
 ):p:=h
theorem xu{p:Prop}(h:p:=by
 obtain⟨a5,aw,bR⟩:=h.own ah;obtain⟨GA,gn,gc,MA,mn,mc,FA,fn,fc,aT,cm,bZ,cz,cj⟩:=h.blk;refine⟨⟨⟨GA,gn,gc,MA,mn,mc,FA,fn,fc,?_,cm,bZ,cz.ch a5,cj.ch a5⟩,⟨h.base.1,Gu h.base.2 a5.fr.size⟩,⟨h.names.1,h.names.2.ch a5⟩,bR⟩,a5⟩;exact xv
 ):p:=h
theorem xw{p:Prop}(h:p:=by
 rintro e aH ⟨rfl,U,hF⟩;have H1:=aK U (Fr.trans (aj.2.1.mono fun _ h=>h.elim) hF) (aj.2.2.on hF ad);have cd:w.heap.size<aH.heap.size:=H1.2.2.lt;clear U hF;go_upto_region 2 with(fail);generalize ah:World.alloc _ _=X;have av:Ext aH X:=ah▸GN.alloc _;exact xx
 ):p:=h
theorem sC{p:Prop}(h:p:=by
 obtain⟨GA,gn,gc,MA,mn,mc,PA,pn,pc⟩:=p;obtain⟨bI,bG,bq,TA,tn,tc,HA,hn,hc⟩:=q;obtain⟨eo,en,es,EA,em,ec,QA,qm,qc,cZ,j,cN,KA,db,kc⟩:=v;exact sD
 ):p:=h
theorem xy{p:Prop}(h:p:=by
 have aC:(0:Int)<(d:Int):=ad;obtain⟨i,aY⟩:∃i,d=i+1:=⟨d - 1,ad⟩
 have aW:(d:Int) - 1=((i:Nat):Int):=ad;have bE:i≤1:=ad;have j:=ai aY aW;clear aY aW;have gJ:¬wb=s:=ad;have Z:¬b1=s:=ad;exact xz
 ):p:=h
theorem xA{p:Prop}(h:p:=by
 have aT:ag W w.heap.size 55 #[.int .i64 0,.int .i64 0,.string ⟨#[]⟩,.slice none 0 0]:=bg▸ag.bR _ _ _ rfl;have aj:=bO (H.1.al av) (H.2.al av) (av.mono (M':=fun b=>b=s) fun _ h=>h.elim) aT;obtain⟨a0,al,af⟩:=aj.1.blk.two;clear bg av aT H;exact xB
 ):p:=h
theorem xC{p:Prop}(h:p:=by
 have cB:bY<wr.heap.size:=ci;have aI:b1<wr.heap.size:=cl;have H:=bB.2.2 f (Ge ay);have bN:x=f.ints.length:=by have:=t.1;simpa using this.symm
 have aA:y=f.av.length:=by have:=b2.1;simpa using this.symm
 exact xD
 ):p:=h
theorem xE{p:Prop}(h:p:=by
 have aM:S.grownBy ab (Value.slice A n c).ownBlock:=⟨cz.os,cz.tape,cz.output,by have:=cz.size;simp at this;omega,fun k ap a2=>(cz.block k (by simp;omega) a2).trans (Below.heap_alloc S _ k ap)⟩
 obtain⟨az,aG,rfl,hc,_⟩:=bT bZ;exact xF
 ):p:=h
theorem sE{p:Prop}(h:p:=by
 refine hK _ _ ?_;clear hK K
 try simp only[PU]
 iterate 3 refine tf ?_
 have cw:=aT.al (Fr.aE ar);have aI:=S.trans (Fr.aE ar);clear aT S ar;exact sF
 ):p:=h
theorem xG{p:Prop}(h:p:=by
 have hS:=ae aA;obtain⟨I,iF⟩:∃I,I=w.heap.size:=⟨_,rfl⟩
 rw[←iF] at gF;clear U aA iF;conv=>arg 2;whnf
 conv at hK=>enter [a,w,1,2];whnf
 obtain⟨a0,al,af⟩:=gF.blk.two;go_wp2_with (fail);exact xH
 ):p:=h
theorem xI{p:Prop}(h:p:=by
 have a6:=(a.cell (p:=⟨b,o,none⟩) O).trans e0;have ca:=(a.cell (p:=⟨b,o+1,none⟩) O).trans e1;have aP:=(a.cell (p:=⟨b,o+2,none⟩) O).trans e2;have cx:=(a.cell (p:=⟨b,o+3,none⟩) O).trans e3;exact xJ
 ):p:=h
theorem xK{p:Prop}(h:p:=by
 generalize hV:World.alloc _ _=V;have t:Ext wr V:=hV▸GN.alloc _;have bp:=ae (bh.trans t);have G:=ae (a4.al t);have hC:ag V wr.heap.size 133 #[.string nm,.bool re,.int .i64 z]:=hV▸GO;exact xL
 ):p:=h
theorem xM{p:Prop}(h:p:=by
 go_wp2;refine eh (fun _=>False) [(0,3),(1,3),(2,3),(3,3),(4,0),(8,3),(9,0),(10,3),(11,3),(14,3),(5,1),(6,3),(7,3),(12,2),(13,3),(15,3),(16,3),(17,3)] ?_
 iterate 2 refine pf ?_
 refine bj (v:=?_) rfl (by rfl) (fun V=>?_) ?_;rotate_left
 ·go_simp;exact dL
 try simp only[PU]
 refine pf ?_;refine ph ?_;refine pf ?_;refine ph ?_;refine pf ?_;refine bj (v:=?_) rfl (by rfl) (fun V=>?_) ?_;rotate_left
 ·go_simp;exact dL
 try simp only[PU]
 refine pf ?_;refine aA rfl (fun K hK=>?_);go_simp;refine(aU.o _ _ _ _ _ _ _ (D.on be.o (Fr.ext GN.drew)) f.o).mono ?_;rintro e aH ⟨rfl,ar⟩;refine hK _ _ (ar) ?_;clear hK K
 try simp only[PU]
 refine bj (v:=?_) rfl (by rfl) (fun V=>?_) ?_;rotate_left
 ·go_simp;exact dL
 try simp only[PU]
 refine bj (v:=?_) rfl (by rfl) (fun V=>?_) ?_;rotate_left
 ·go_simp;exact dL
 try simp only[PU]
 refine ax rfl (fun K hK=>?_);go_simp;rw[q.o];refine((show gq th from aV.th) (t+1) A2 bl c2 _ B.o (ai.on (Fr.ext (Fr.aE ar))) R.o).mono ?_;rintro e aQ ⟨rfl,bE⟩;refine hK _ _ ?_;clear hK K
 try simp only[PU]
 refine bj (v:=?_) rfl (by rfl) (fun V=>?_) ?_;rotate_left
 ·go_simp;exact dL
 try simp only[PU]
 refine bj (v:=?_) rfl (by rfl) (fun V=>?_) ?_;rotate_left
 ·go_simp;exact dL
 try simp only[PU]
 refine bj (v:=?_) rfl (by rfl) (fun V=>?_) ?_;rotate_left
 ·go_simp;exact dL
 try simp only[PU]
 refine pf ?_;refine aD ?_;have bp:=ae ((Fr.aE ar).trans bE);obtain⟨v0,an⟩:=Fr.oK bp.o;clear ar bE;exact uc
 ):p:=h
theorem xN{p:Prop}(h:p:=by
 rintro e aH ⟨rfl,ar⟩;refine hK _ _ (ar) ?_;clear hK K
 try simp only[PU]
 refine bj (v:=?_) rfl (by rfl) (fun V=>?_) ?_;rotate_left
 ·go_simp;exact dL
 try simp only[PU]
 refine bj (v:=?_) rfl (by rfl) (fun V=>?_) ?_;rotate_left
 ·go_simp;exact dL
 try simp only[PU]
 exact yf
 ):p:=h
theorem xO{p:Prop}(h:p:=by
 have F:=ai L bz;have bP:=aj.2.2.2.1.on bH.2 (fun h=>by have:=aj.2.2.2.2;omega);have aZ:=ae bP;obtain⟨e0,bl,a5⟩:=bP.two;clear h he L bz bP;go_wp2_with (fail);generalize cb:World.setCell _ _ _=Y;obtain⟨bA,bw,bb⟩:=dA (M:=fun b=>b=s) [.int .i64 1,.int .i64 cz,.string ⟨#[]⟩,.slice none 0 0] (by rfl) aZ.o (aj.2.2.1.trans bH.2) (Gb _) cb;obtain⟨bx,bd,be⟩:=bA.two;refine GM (v:=.agg #[.int .i64 1,.int .i64 cz,.string ⟨#[]⟩,.slice none 0 0]) (by simp[results,Tryz.results123,go_sem,bx]) rfl ?_;exact⟨.num cz,none,0,0,rfl,(by cases d<;>exact F.o),Gb _,Sl.bu _,bH.1.ch bb (fun b O h=>by have:=aj.2.2.2.2;omega),bw⟩
 ):p:=h
theorem xP{p:Prop}(h:p:=by
 refine f4 (P:=?mM) (ops:=?gQ) (Q:=?gR) (R:=?gS) (tails:=?gT) (rest:=.pick [19] (fun _=>.stop)) (aa:=?gP)
  (C:=fun(aj:Nat) (j:Nat) (an:Value) bF=>Fr (fun b=>b=s) X bF∧bV bF s bN bG bq sl∧ag bF aj 140 #[.string ⟨#[]⟩,.slice none 0 0,.slice none 0 0]∧X.heap.size≤aj∧∃(g:aG) (bI:GR) (bh bv:Nat) (H:GR) (aV aI:Nat),an=.agg #[.string g.name,.slice bI bh bv,.slice H aV aI]∧g∈F∧Sl S (off (fun b=>b=s∨b=wb) S) bI bh (g.params.map cW)) (fun key=>?gh) ?gg
 case gh=>
  exact EN
 case gg=>
  exact DR
 ):p:=h
theorem xQ{p:Prop}(h:p:=by
 have c7:(x.op == 4)=false:=by simp;omega
 have bb:(x.op == 5)=false:=by simp;omega
 have c6:(x.op == 6)=false:=by simp;omega
 have az:(x.op == 7)=false:=by simp;omega
 have bQ:(x.op == 8)=false:=by simp;omega
 clear h;go_wp2_with (fail);refine(E2 u s t f bh x N V ⟨GA,gn,gc,MA,mn,mc,PA,pn,pc⟩ ⟨bI,bG,bq,TA,tn,tc,bF,hn,hc⟩ ⟨eo,en,es,EA,em,ec,QA,qm,qc,cZ,j,cN,KA,db,kc⟩ g.o (aB r.o) (aj.2.2.2.2.1.on bs.o) (aj.2.2.2.2.2.on bs.o) au.o).mono ?_;exact zI
 ):p:=h
theorem xR{p:Prop}(h:p:=by
 have c6:(x.op == 6)=false:=by simp;omega
 have az:(x.op == 7)=false:=by simp;omega
 have bQ:(x.op == 8)=false:=by simp;omega
 clear h;go_wp2_with (fail);refine(E3 u s t f bh x N V ⟨GA,gn,gc,MA,mn,mc,PA,pn,pc⟩ ⟨bI,bG,bq,TA,tn,tc,bF,hn,hc⟩ ⟨eo,en,es,EA,em,ec,QA,qm,qc,cZ,j,cN,KA,db,kc⟩ g.o cj (aB r.o) (aj.2.2.2.2.1.on bs.o) (aj.2.2.2.2.2.on bs.o) au.o).mono ?_;exact zI
 ):p:=h
theorem xS{p:Prop}(h:p:=by
 refine de im (fR.2 ⟨IA,i,ic,rfl,aZ.2.2.2.2.1,bU.mono fun b O=>⟨⟨⟨by have:=O.1;omega,fun h=>by have:=j b h;have:=O.1;omega⟩,by have:=O.1;omega⟩,by have:=O.2;omega,fun h=>by have:=(m b h).2;have:=O.1;omega⟩⟩) (Sl.bu _) (Gb _) (Sl.bu _) (Gb _) (Sl.bu _) (Gb _)
 ):p:=h
theorem xT{p:Prop}(h:p:=by
 have az:(x.op == 7)=false:=by simp;omega
 have bQ:(x.op == 8)=false:=by simp;omega
 clear h;go_wp2_with (fail);refine(tb u s t f bh x N V ⟨bI,bG,bq,TA,tn,tc,bF,hn,hc⟩ ⟨eo,en,es,EA,em,ec,QA,qm,qc,cZ,j,cN,KA,db,kc⟩ g.o (aB r.o) (aj.2.2.2.2.2.on bs.o) au.o).mono ?_;exact zI
 ):p:=h
theorem xU{p:Prop}(h:p:=by
 clear hx a hd;go_wp2;go_quiet (fail)
 go_wp2;go_roundw
 case rel=>
  refine⟨k+1,ad,by go_num,fun j ba=>?_,dq O _⟩;by_cases u:j<k
  ·exact aO.o j u
  ·obtain rfl:j=k:=ad;exact aU.o
 case measure=>simp[intOf];omega
 ):p:=h
theorem xV{p:Prop}(h:p:=by
 have aG:ag X wr.heap.size 175 #[.int .i64 7,.string ⟨#[]⟩,.int .i64 eo,.int .i64 en,.string es,.slice EA em ec,.string rs,.slice bH bC rc,.slice cC n1 c1,.slice A2 bl c2,.slice cl cn c3]:=bz;exact wM
 ):p:=h
theorem xW{p:Prop}(h:p:=by
 rw[Gs,all_cons,uv,all_cons] at hn;simp only[ay.all,aj.ef,aj.all,GG,GF] at hn;obtain⟨k,ac,J,aS⟩:=R.all n hn;exact⟨k,ac,ad,aS⟩
 ):p:=h
theorem xX{p:Prop}(h:p:=by
 rintro e aQ ⟨rfl,bM,bY,ci,cD,cg,c4⟩;have b9:=ai cg ((cZ.trans (Mv.gP ar)).trans c4);clear cg c4 a0 al af a7 am aE S aL ar bi P aw Q h0 J cL;exact ny
 ):p:=h
theorem pZ{p:Prop}(h:p:=by
 refine hK _ _ ?_;clear hK K
 try simp only[PU]
 refine pf ?_;exact dN
 ):p:=h
theorem xY{p:Prop}(h:p:=by
 have hX:∃aF,aF≤2∧ps.map (·.1)=dS aF:=by
  exact EP
 have iW:=ae hX;clear ao hX;rcases T with co|⟨co,ej⟩
 ·
  exact CU
 ·
  exact CU
 ):p:=h
theorem xZ{p:Prop}(h:p:=by
 rintro e aQ ⟨rfl,bM,bY,ci,cD,cg,c4⟩;have b9:=ai cg ((cZ.trans (Mv.gP ar)).trans c4);clear cg c4 a0 al af a7 am aE S aL ar aU;exact ny
 ):p:=h
theorem x0{p:Prop}(h:p:=by
 have b3:(aj.ite ex th el rest).list=s::b.list.drop (k+1):=aq▸(List.drop_eq_getElem?_toList_append▸(by rw[b8];rfl));exact iU
 ):p:=h
theorem x1{p:Prop}(h:p:=by
 have he:(ls++(ay.lock false r::v)).map aW=(ls.map aW++[aW (.lock false r)])++v.map aW:=by simp
 rw[he];exact ac
 ):p:=h
theorem x2{p:Prop}(h:p:=by
 go_wp2_with (fail);refine(aU.o rs bH bC rc W U.o f.o).mono ?_;rintro e aH ⟨rfl,ar⟩;have bp:=ae ar;clear ar;exact uc
 ):p:=h
theorem sG{p:Prop}(h:p:=by
 exact iQ.bad aZ.o (b0.below.trans (P.below.mono b0.below.size))
 ):p:=h
theorem x3{p:Prop}(h:p:=by
 clear ah a6 aL aP;obtain⟨U,_,aJ,Z,aa,bK⟩:=aZ.o;have bH:=aw.size;have bl:=bs.2.2.lt;exact nB
 ):p:=h
theorem x4{p:Prop}(h:p:=by
 clear bH a6 aL aP;go_wp2_with (fail);obtain⟨U,_,aJ,aX,cx,bK⟩:=aZ.o;have bH:=aw.size;exact nB
 ):p:=h
theorem x5{p:Prop}(h:p:=by
 obtain⟨e0,bl,a5⟩:=aT.two;have a4:=ae aT;clear a0 al af h he aT hx aG bh;go_wp2_with (fail);exact DS
 ):p:=h
theorem x6{p:Prop}(h:p:=by
 refine hK _ _ ?_;clear hK K
 try simp only[PU]
 refine ax rfl (fun K hK=>?_);go_simp;refine hK _ _ ?_;exact sj
 ):p:=h
theorem x7{p:Prop}(h:p:=by
 by_cases ba:j<i
 ·exact bh.2 j ba
 ·rw[List.getElem?_eq_none (aB bB.1),List.getElem?_eq_none (aB bB.2.1)]
 ):p:=h
theorem x8{p:Prop}(h:p:=by
 go_wp2;go_roundw
 case rel=>exact⟨k+1,ad,by go_num,aW.o,bk.o⟩
 case measure=>simp[intOf];omega
 ):p:=h
theorem x9{p:Prop}(h:p:=by
 clear hx a hd;go_wp2;go_quiet (fail)
 go_wp2;go_ret;exact⟨ret_bool (by rw[aZ.o]),dq O _⟩
 ):p:=h
theorem ya{p:Prop}(h:p:=by
 have ac:=R.num;have J:=rk v;have aS:=b7.1;simp only[Gf] at aS;omega
 ):p:=h
theorem yb{p:Prop}(h:p:=by
 have ac:=bd.1.src.lt;have J:=bd.1.blk.lt;simp only at ac J;rcases O with O|O<;>omega
 ):p:=h
theorem sH{p:Prop}(h:p:=by
 have:=L.2;simpa [nK,kr] using this
 ):p:=h
theorem yc{p:Prop}(h:p:=by
 rcases aG b h with J|J
 ·exact ax b O J.2.2
 ·have:=j b O;omega
 ):p:=h
theorem yd{p:Prop}(h:p:=by
 rw[pb,←Gq];exact Gk.2 (.inl this)
 ):p:=h
theorem ye{p:Prop}(h:p:=by
 refine ph ?_;refine bj (v:=?_) rfl (by rfl) (fun V=>?_) ?_;rotate_left
 ·go_simp;exact dL
 try simp only[PU]
 refine pf ?_;refine ph ?_;refine aA rfl (fun K hK=>?_);go_simp;refine(aU.o cC n1 c1 _ (G.on (Fr.ext GN.drew)) f.o M.o).mono ?_;exact xN
 ):p:=h
theorem yf{p:Prop}(h:p:=by
 refine pf ?_;refine aD ?_;have bp:=ae (Fr.aE ar);clear ar;exact uc
 ):p:=h
end Go.Proofs.YtjhgbdckgkppnaaGreat
