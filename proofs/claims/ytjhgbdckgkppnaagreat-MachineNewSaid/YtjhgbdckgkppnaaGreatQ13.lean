/- Part 13 of the proof (Wri WriP PrK PrL), without conditions of its own. -/
import Derived.Test.YtjhgbdckgkppnaaGreatQ07
import Derived.Test.YtjhgbdckgkppnaaGreatQ12
namespace Go.Proofs.YtjhgbdckgkppnaaGreat
open Go.RowKit Go.Proofs.Tryz
set_option maxRecDepth 1000000
set_option maxHeartbeats 25600000
set_option linter.unusedVariables false
variable{n:ByteArray}{G:Env}{T V ab:GS}{cs:List Value}{l:List ay}{L d k:Nat}{P:Nat→Prop}{w:World}{f:aG}{s:ay}{p:bC}
def aj.ef:List ay→aj
 | []=>.nil
 | .set v n e::l=>.set v n e (ef l)
 | .call g n aO::l=>.call g n aO (ef l)
 | .lock u r::l=>.lock u r (ef l)
 | .ite e th el::l=>.ite e th el (ef l)
 | .fj e th::l=>.fj e th (ef l)
 | .ret::l=>.ret (ef l)
theorem rr:∀l:List ay,(aj.ef l).list=l
 | []=>rfl
 | s::l=>by cases s<;>simp only[aj.ef,aj.list,rr l]
theorem k3(l:List ay):cL (.ef l)=l.map aW:=by rw[cq,rr]
def ay.decl:ay→List ByteArray
 | .set true n _=>[n]
 | _=>[]
def decls(l:List ay):List ByteArray:=l.flatMap ay.decl
theorem pb(l m:List ay):decls (l++m)=decls l++decls m:=List.flatMap_append
def aj.all:aj→List ByteArray
 | .nil=>[]
 | .set true n _ rest=>n::rest.all
 | .set false _ _ rest=>rest.all
 | .call _ _ _ rest=>rest.all
 | .lock _ _ rest=>rest.all
 | .ite _ th el rest=>th.all++el.all++rest.all
 | .fj _ th rest=>th.all++rest.all
 | .ret rest=>rest.all
def ay.all:ay→List ByteArray
 | .set true n _=>[n]
 | .ite _ th el=>th.all++el.all
 | .fj _ th=>th.all
 | _=>[]
theorem all_cons(s:ay)(l:List ay):(aj.ef (s::l)).all=s.all++(aj.ef l).all:=by
 cases s with
 | set v n e=>cases v<;>rfl
 | ite e th el=>simp[aj.ef,aj.all,ay.all]
 | fj e th=>simp[aj.ef,aj.all,ay.all]
 | call g n aO=>rfl
 | lock u r=>rfl
 | ret=>rfl
theorem uv(l m:List ay):(aj.ef (l++m)).all=(aj.ef l).all++(aj.ef m).all:=by
 induction l with
 | nil=>rfl
 | cons s l aa=>rw[Gs,all_cons,all_cons,aa,Gq]
theorem Ai(s:ay)(h:n∈s.decl):n∈s.all:=by
 cases s with
 | set v n e=>cases v<;>simp_all [ay.decl,ay.all]
 | _=>simp[ay.decl] at h
theorem vb(l:List ay)(h:n∈decls l):n∈(aj.ef l).all:=by
 induction l with
 | nil=>simp[decls] at h
 | cons s l aa=>
  rw[all_cons];unfold decls at h;rw[Gx] at h;rcases Gk.1 h with h|h
  ·exact Gk.2 (.inl (Ai s h))
  ·exact Gk.2 (.inr (aa h))
def ay.num:ay→Nat
 | .ite _ th el=>th.num+el.num+1
 | .fj _ th=>th.num+1
 | _=>1
theorem iF(s:ay)(l:List ay):(aj.ef (s::l)).num=s.num+(aj.ef l).num:=by
 cases s<;>simp only[aj.ef,aj.num,ay.num]<;>omega
theorem qq(l m:List ay):(aj.ef (l++m)).num=(aj.ef l).num+(aj.ef m).num:=by
 induction l with
 | nil=>simp[aj.ef,aj.num]
 | cons s l aa=>rw[Gs,iF,iF,aa,Nat.add_assoc]
theorem m7(s:ay):(aj.ef [s]).num=s.num:=by rw[iF];simp[aj.ef,aj.num]
theorem rk(l:List ay):l.length≤(aj.ef l).num:=by
 induction l with
 | nil=>simp
 | cons s l aa=>
  rw[iF];have:1≤s.num:=by cases s<;>simp[ay.num]
  simp;omega
def CJ(G:Env)(d:Nat)(V T:GS):ay→Prop
 | .set true n e=>br n.data.toList=true∧n∉T∧e.src V 2
 | .set false n e=>n∈V∧e.src V 2
 | .call _ n aO=>∃ps,(n,ps)∈G.funcs∧hN G V ps aO
 | .lock _ r=>pN G V r
 | .ite e th el=>∃k,d=k+1∧e.src V 2∧ej G k V T th∧ej G k V T el
 | .fj e th=>∃k,d=k+1∧e.src V 2∧ej G k V T th
 | .ret=>True
theorem lH:ej G d V T .nil:=by cases d<;>trivial
theorem lG:ej G d V T (.ef (s::l))↔CJ G d V T s∧ej G d (V++s.decl) (T++s.decl) (.ef l):=by
 cases s with
 | set v n e=>
  cases v
  ·simp only[aj.ef,ay.decl,CJ,GF];cases d<;>exact⟨fun h=>⟨⟨h.1,h.2.1⟩,h.2.2⟩,fun h=>⟨h.1.1,h.1.2,h.2⟩⟩
  ·simp only[aj.ef,ay.decl,CJ]
   cases d<;>exact⟨fun h=>⟨⟨h.1,h.2.1,h.2.2.1⟩,h.2.2.2⟩,fun h=>⟨h.1.1,h.1.2.1,h.1.2.2,h.2⟩⟩
 | call g n aO=>
  exact wG
 | lock u r=>
  exact wG
 | ite e th el=>
  simp only[aj.ef,ay.decl,CJ,GF]
  cases d with
  | zero=>exact⟨fun h=>h.elim,fun⟨⟨k,h,_⟩,_⟩=>ad⟩
  | succ d=>exact⟨fun h=>⟨⟨d,rfl,h.1,h.2.1,h.2.2.1⟩,h.2.2.2⟩,fun⟨⟨k,h,ac,J,aS⟩,bo⟩=>by
    obtain rfl:d=k:=ad
    exact⟨ac,J,aS,bo⟩⟩
 | fj e th=>
  simp only[aj.ef,ay.decl,CJ,GF]
  cases d with
  | zero=>exact⟨fun h=>h.elim,fun⟨⟨k,h,_⟩,_⟩=>ad⟩
  | succ d=>exact⟨fun h=>⟨⟨d,rfl,h.1,h.2.1⟩,h.2.2⟩,fun⟨⟨k,h,ac,J⟩,bo⟩=>by
    obtain rfl:d=k:=ad
    exact⟨ac,J,bo⟩⟩
 | ret=>
  simp only[aj.ef,ay.decl,CJ,GF,true_and];cases d<;>exact Iff.rfl
theorem qI{G:Env}{d:Nat}:∀{V T:GS} {l m:List ay},ej G d V T (.ef (l++m))↔ej G d V T (.ef l)∧ej G d (V++decls l) (T++decls l) (.ef m)
 | V,T,[],m=>by simp[decls,aj.ef,lH]
 | V,T,s::l,m=>by
  have aa:=qI (G:=G) (d:=d) (V:=V++s.decl) (T:=T++s.decl) (l:=l) (m:=m);rw[Gs,lG,lG,aa];simp only[decls,Gx,Gq];exact and_assoc.symm
theorem qJ:ej G d V T (.ef [s])↔CJ G d V T s:=by
 rw[lG];exact⟨fun h=>h.1,fun h=>⟨h,lH⟩⟩
theorem dv{V ab:GS}(h:V ⊆ ab):∀(d:Nat) (x:VE),x.src V d→x.src ab d
 | d,.num _,hx=>by cases d<;>exact hx
 | d,.ga s,hx=>by
  have a:s∈V:=by cases d<;>exact hx
  have:=h a
  cases d<;>exact this
 | d,.loc _,hx=>by cases d<;>exact hx.elim
 | d,.hR _,hx=>by cases d<;>exact hx.elim
 | 0,.un _ _,hx=>hx.elim
 | 0,.bin _ _ _,hx=>hx.elim
 | d+1,.un _ x,hx=>⟨hx.1,dv h d x hx.2⟩
 | d+1,.bin _ x y,hx=>⟨hx.1,dv h d x hx.2.1,dv h d y hx.2.2⟩
theorem iN(h:V ⊆ ab){r:d2}(aX:pN G V r):pN G ab r:=by
 rcases aX with⟨m,hm,hn,ac,J⟩|hp
 ·exact .inl ⟨m,hm,hn,fun hs=>by obtain⟨e,he,aC⟩:=ac hs;exact⟨e,he,dv h 2 e aC⟩,J⟩
 ·exact .inr hp
theorem kh{G:Env}{V ab:GS}(h:V ⊆ ab):∀(ps:List (ByteArray×Bool)) (aO:List cQ),hN G V ps aO→hN G ab ps aO
 | [],[],_=>trivial
 | p::ps,a::aO,aV=>by
  refine⟨?_,kh h ps aO aV.2⟩
  cases a with
  | mx r=>exact⟨aV.1.1,iN h aV.1.2⟩
  | ex e=>exact⟨aV.1.1,dv h 2 e aV.1.2⟩
 | [],_::_,aV=>aV.elim
 | _::_,[],aV=>aV.elim
theorem Bq(h:V ⊆ ab)(m:GS):V++m ⊆ ab++m:=fun x hx=>by
 rcases Gk.1 hx with hx|hx
 ·exact Gk.2 (.inl (h hx))
 ·exact Gk.2 (.inr hx)
theorem sM{A aM:GS}(h:∀x∈A,x∈aM→x∈T):∀x∈A,x∈aM++[n]→x∈T++[n]:=fun x hx hm=>by
 rcases Gk.1 hm with hm|hm
 ·exact Gk.2 (.inl (h x hx hm))
 ·exact Gk.2 (.inr hm)
theorem cP{G:Env}:∀(b:aj) (d a:Nat) (V ab T aM:GS),V ⊆ ab→(∀n∈b.all,n∈aM→n∈T)→d≤a→ej G d V T b→ej G a ab aM b
 | .nil,d,a,V,ab,T,aM,hV,aR,hd,h=>lH
 | .set true n e rest,d,a,V,ab,T,aM,hV,aR,hd,h=>by
  have F:br n.data.toList=true∧n∉T∧e.src V 2∧ej G d (V++[n]) (T++[n]) rest:=by cases d<;>exact h
  have aa:=cP rest d a (V++[n]) (ab++[n]) (T++[n]) (aM++[n]) (Bq hV _) (sM fun x hx=>aR x (by simp[aj.all,hx])) hd F.2.2.2;have r:br n.data.toList=true∧n∉aM∧e.src ab 2∧ej G a (ab++[n]) (aM++[n]) rest:=⟨F.1,fun hm=>F.2.1 (aR n (by simp[aj.all]) hm),dv hV 2 e F.2.2.1,aa⟩
  cases a<;>exact r
 | .set false n e rest,d,a,V,ab,T,aM,hV,aR,hd,h=>by
  have F:n∈V∧e.src V 2∧ej G d V T rest:=by cases d<;>exact h
  have aa:=cP rest d a V ab T aM hV (fun x hx=>aR x (by simp[aj.all,hx])) hd F.2.2;have r:n∈ab∧e.src ab 2∧ej G a ab aM rest:=⟨hV F.1,dv hV 2 e F.2.1,aa⟩
  cases a<;>exact r
 | .call g n aO rest,d,a,V,ab,T,aM,hV,aR,hd,h=>by
  have F:(∃ps,(n,ps)∈G.funcs∧hN G V ps aO)∧ej G d V T rest:=by cases d<;>exact h
  have aa:=cP rest d a V ab T aM hV (fun x hx=>aR x (by simp[aj.all,hx])) hd F.2;obtain⟨ps,bi,P⟩:=F.1;have r:(∃ps,(n,ps)∈G.funcs∧hN G ab ps aO)∧ej G a ab aM rest:=⟨⟨ps,bi,kh hV ps aO P⟩,aa⟩
  cases a<;>exact r
 | .lock u r rest,d,a,V,ab,T,aM,hV,aR,hd,h=>by
  have F:pN G V r∧ej G d V T rest:=by cases d<;>exact h
  have aa:=cP rest d a V ab T aM hV (fun x hx=>aR x (by simp[aj.all,hx])) hd F.2;have r:pN G ab r∧ej G a ab aM rest:=⟨iN hV F.1,aa⟩
  cases a<;>exact r
 | .ite e th el rest,0,a,V,ab,T,aM,hV,aR,hd,h=>h.elim
 | .fj e th rest,0,a,V,ab,T,aM,hV,aR,hd,h=>h.elim
 | .ite e th el rest,d+1,0,V,ab,T,aM,hV,aR,hd,h=>ad
 | .fj e th rest,d+1,0,V,ab,T,aM,hV,aR,hd,h=>ad
 | .ite e th el rest,d+1,a+1,V,ab,T,aM,hV,aR,hd,h=>
  ⟨dv hV 2 e h.1,cP th d a V ab T aM hV (fun x hx=>aR x (by simp[aj.all,hx])) ad h.2.1,
   cP el d a V ab T aM hV (fun x hx=>aR x (by simp[aj.all,hx])) ad h.2.2.1,cP rest (d+1) (a+1) V ab T aM hV (fun x hx=>aR x (by simp[aj.all,hx])) hd h.2.2.2⟩
 | .fj e th rest,d+1,a+1,V,ab,T,aM,hV,aR,hd,h=>
  ⟨dv hV 2 e h.1,cP th d a V ab T aM hV (fun x hx=>aR x (by simp[aj.all,hx])) ad h.2.1,cP rest (d+1) (a+1) V ab T aM hV (fun x hx=>aR x (by simp[aj.all,hx])) hd h.2.2⟩
 | .ret rest,d,a,V,ab,T,aM,hV,aR,hd,h=>by
  have F:ej G d V T rest:=by cases d<;>exact h
  have aa:=cP rest d a V ab T aM hV (fun x hx=>aR x (by simpa [aj.all] using hx)) hd F;cases a<;>exact aa
def gk(k:Nat):ByteArray:=⟨#[118,UInt8.ofNat (97+k % 26),UInt8.ofNat (97+k / 26 % 26)]⟩
theorem vP{j:Nat}(ba:j<26)(ap:k<26)(h:gk j=gk k):j=k:=by
 unfold gk at h;rw[ByteArray.ext_iff] at h;have J:=congrArg (fun a:Array UInt8=>a[1]!) h;have aS:(UInt8.ofNat (97+j % 26)).toNat=(UInt8.ofNat (97+k % 26)).toNat:=congrArg UInt8.toNat J;simp at aS;omega
theorem Bx(ap:k<26):br (gk k).data.toList=true:=by
 have:∀k:Fin 26,br (gk k.val).data.toList=true:=by decide
 exact this ⟨k,ap⟩
structure Made(G:Env)(d:Nat)(V T:GS)(L R:Nat)(l:List ay):Prop where
 wf:ej G d V T (.ef l)
 all:∀n∈(aj.ef l).all,∃k,R≤k∧k<L∧n=gk k
 num:(aj.ef l).num≤2*(L - R)
 le:R≤L
theorem Made.nil(G:Env)(d:Nat)(V T:GS)(L:Nat):Made G d V T L L []:=⟨lH,fun n h=>by simp[aj.ef,aj.all] at h,by simp[aj.ef,aj.num],Gb _⟩
def kV(T:GS)(L:Nat):Prop:=∀k,k<L→gk k∉T
theorem Made.free{R:Nat}(h:Made G d V T L R l)(ca:L≤26)(aw:kV T L):kV (T++decls l) R:=fun k ap hm=>by
 rcases Gk.1 hm with hm|hm
 ·exact aw k (aB h.le) hm
 ·obtain⟨j,ac,J,aS⟩:=h.all _ (vb l hm);have:=vP ad ad aS;omega
theorem Made.snoc{aX bZ:Nat}(h:Made G d V T L aX l){m:List ay}(hm:ej G d (V++decls l) (T++decls l) (.ef m))(aV:∀n∈(aj.ef m).all,∃k,bZ≤k∧k<aX∧n=gk k)
  (hn:(aj.ef m).num≤2*(aX - bZ)) (hle:bZ≤aX):Made G d V T L bZ (l++m):=by
 refine⟨qI.2 ⟨h.wf,hm⟩,fun n hn=>?_,?_,Gu hle h.le⟩
 ·rw[uv] at hn;rcases Gk.1 hn with hn|hn
  ·obtain⟨k,ac,J,aS⟩:=h.all n hn;exact⟨k,ad,J,aS⟩
  ·obtain⟨k,ac,J,aS⟩:=aV n hn;exact⟨k,ac,by have:=h.le;omega,aS⟩
 ·rw[qq];have ac:=h.num;have J:=h.le;omega
def dr(i:Nat):ByteArray:=⟨#[103,UInt8.ofNat (48+i)]⟩
def fK(i:Nat):ByteArray:=⟨#[UInt8.ofNat (97+i)]⟩
def hv(i:Nat):ByteArray:=if i=0 then hB else ⟨#[102,UInt8.ofNat (48+i)]⟩
def rB(i:Nat):ByteArray:=⟨#[112,UInt8.ofNat (48+i)]⟩
def dS:Nat→List ByteArray
 | 0=>[]
 | n+1=>rB (n+1)::dS n
def tM(ng nm nf:Nat):List ByteArray:=(List.range ng).map dr++(List.range nm).map fK++(List.range nf).map hv
def mr:List ByteArray:=tM 2 4 4++dS 2
theorem n4:mr.Nodup:=by
 have h:(mr.map fun s=>s.data.toList).Nodup:=by decide
 exact(List.pairwise_map.1 h).imp fun a2 e=>a2 (by rw[e])
theorem qe:∀s∈mr,br s.data.toList=true:=by decide
theorem vk:kV mr 26:=by
 have h:∀k:Fin 26,(gk k.val).data.toList∉mr.map fun s=>s.data.toList:=by decide
 intro k ap hm;exact h ⟨k,ap⟩ (GD.2 ⟨_,hm,rfl⟩)
theorem tr{n:Nat}(h:n≤2):(dS n).Sublist (dS 2):=by
 obtain rfl|rfl|rfl:n=0∨n=1∨n=2:=ad
 ·exact List.nil_sublist _
 ·exact List.Sublist.cons _ (List.Sublist.refl _)
 ·exact List.Sublist.refl _
theorem Bt{ng nm nf n:Nat}(ac:ng≤2)(J:nm≤4)(aS:nf≤4)(bo:n≤2):(tM ng nm nf++dS n).Sublist mr:=by
 unfold mr tM;refine List.Sublist.append (List.Sublist.append (List.Sublist.append ?_ ?_) ?_) (tr bo)
 ·exact(List.range_sublist.2 ac).map _
 ·exact(List.range_sublist.2 J).map _
 ·exact(List.range_sublist.2 aS).map _
theorem l0{α:Type}{f:α→ByteArray}{h:Nat→ByteArray}{l:List α}(hl:∀i x,l[i]?=some x→f x=h i):l.map f=(List.range l.length).map h:=by
 apply List.ext_getElem?
 intro i;rw[List.getElem?_map,List.getElem?_map];by_cases aJ:i<l.length
 ·have hx:l[i]?=some l[i]:=List.getElem?_eq_getElem aJ;rw[hx,List.getElem?_range aJ];simp[hl i _ hx]
 ·rw[List.getElem?_eq_none ad,List.getElem?_eq_none (by simp;omega)];rfl
structure fH(p:bC):Prop where
 ng:p.globals.length≤2
 nm:1≤p.af.length∧p.af.length≤4
 nf:1≤p.funcs.length∧p.funcs.length≤4
 gs:∀i g,p.globals[i]?=some g→g.1=dr i∧-2≤g.2∧g.2≤2
 ms:∀i m,p.af[i]?=some m→m.name=fK i∧0≤m.size∧m.size≤3∧(m.re=true→m.size=0)
 fs:∀i f,p.funcs[i]?=some f→f.name=hv i∧(∃n,n≤2∧f.params.map (·.1)=dS n)∧(i=0→f.params=[])
theorem fH.tM{p:bC}(h:fH p):a5 p=tM p.globals.length p.af.length p.funcs.length:=by
 unfold a5 eD YtjhgbdckgkppnaaGreat.tM;rw[l0 fun i x hx=>(h.gs i x hx).1,l0 fun i x hx=>(h.ms i x hx).1,l0 fun i x hx=>(h.fs i x hx).1]
theorem fH.sub(h:fH p)(aw:f∈p.funcs):(a5 p++f.params.map (·.1)).Sublist mr:=by
 obtain⟨i,aJ⟩:=List.getElem?_of_mem aw;obtain⟨n,hn,hp⟩:=(h.fs i f aJ).2.1;rw[h.tM,hp];exact Bt h.ng h.nm.2 h.nf.2 hn
theorem kM:∀n,(dS n).length=n
 | 0=>rfl
 | n+1=>by simp[dS,kM n]
theorem fH.ir(h:fH p)(aw:f∈p.funcs):f.params.length≤2:=by
 obtain⟨i,aJ⟩:=List.getElem?_of_mem aw;obtain⟨n,hn,hp⟩:=(h.fs i f aJ).2.1;have:=congrArg List.length hp;rw[Gf,kM] at this;omega
theorem fH.free(h:fH p)(aw:f∈p.funcs):kV (a5 p++f.params.map (·.1)) 26:=fun k ap hm=>vk k ap ((h.sub aw).subset hm)
theorem fH.FT(h:fH p):∃f,p.funcs[0]?=some f∧f.name=hB∧f.params=[]:=by
 have:0<p.funcs.length:=h.nf.1;have hx:p.funcs[0]?=some p.funcs[0]:=List.getElem?_eq_getElem this;exact⟨_,hx,(h.fs 0 _ hx).1,(h.fs 0 _ hx).2.2 rfl⟩
theorem fH.env(h:fH p)(aw:f∈p.funcs):mg (gL p f):=by
 have ap:∀{f:aG},f∈p.funcs→∀s∈a5 p++f.params.map (·.1),br s.data.toList=true:=fun aw s hs=>qe s ((h.sub aw).subset hs);refine⟨fun m hm=>ap aw _ ?_,fun q bu=>ap aw _ ?_,fun g aM=>?_⟩
 ·simp only[a5,Gk,GD];exact .inl (.inl (.inr ⟨m,hm,rfl⟩))
 ·simp only[Gk,GD];exact .inr ⟨q,bu,rfl⟩
 ·obtain⟨k,az,rfl⟩:=GD.1 aM;refine⟨ap az _ ?_,h.ir az⟩;simp only[a5,Gk,GD];exact .inl (.inr ⟨k,az,rfl⟩)
theorem fH.vars(h:fH p)(aw:f∈p.funcs):du (eD p++cc f.params):=fun s hs=>by
 refine qe s ((h.sub aw).subset ?_);rcases Gk.1 hs with hs|hs
 ·exact Gk.2 (.inl (by simp only[a5,Gk];exact .inl (.inl hs)))
 ·obtain⟨q,bu,rfl⟩:=GD.1 hs;exact Gk.2 (.inr (GD.2 ⟨q,(List.mem_filter.1 bu).1,rfl⟩))
theorem fH.wf(h:fH p)(O:∀f∈p.funcs,ej (gL p f) 4 (eD p++cc f.params) (a5 p++f.params.map (·.1)) f.body)(hn:(p.funcs.map fun f=>f.body.num).sum≤64):mU p:=by
 obtain⟨fn,h0,b,a⟩:=h.FT;have bU:=Ge h0;have hs:=h.sub bU;rw[a] at hs;simp only[GC,GF] at hs;refine⟨fun s hm=>qe s (hs.subset hm),hs.nodup n4,by have:=h.ng;omega,by have:=h.nm;omega,by have:=h.nf;omega,fun g aM=>?_,fun m hm=>?_,fun f aw=>?_,⟨0,fn,h0,b,a⟩,hn⟩
 ·obtain⟨i,aJ⟩:=List.getElem?_of_mem aM;have:=(h.gs i g aJ).2;omega
 ·obtain⟨i,aJ⟩:=List.getElem?_of_mem hm;have:=(h.ms i m aJ).2;exact⟨this.1,ad,this.2.2⟩
 ·refine⟨(h.env aw).params,h.ir aw,(h.sub aw).nodup n4,O f aw⟩
theorem m0(g:ByteArray×Int):(hq g).sz=2:=rfl
theorem k5{g:ByteArray×Int}:(hq g).rep w P cs↔cs=[.string g.1,.int .i64 g.2]:=by
 unfold hq;rw[bw,ca];exact zT
theorem q3(g:ByteArray×Bool):(cW g).sz=2:=rfl
theorem pg{g:ByteArray×Bool}:(cW g).rep w P cs↔cs=[.string g.1,.bool g.2]:=by
 exact Dm
theorem nR(f:aG):(c7 f).sz=3:=rfl
theorem jy(h:(c7 f).rep w P cs):∃A n c B m d,cs=[.string f.name,.slice A n c,.slice B m d]∧Sl w P A n (f.params.map cW)∧Sl w P B m (cL f.body):=by
 unfold c7 at h;rw[bw,ca] at h;obtain⟨y,rfl,h⟩:=h;obtain⟨A,n,c,bu,rfl,_,ac,h⟩:=aJ.1 h;obtain⟨B,m,d,bA,rfl,_,J,h⟩:=aJ.1 h;rw[aM] at h;subst h;exact⟨_,_,_,_,_,_,rfl,ac,J⟩
theorem qd(m:bF):(d4 m).sz=3:=rfl
theorem hX(n:Int):ks n=aS (gF n):=rfl
structure gr(w:World)(P:Nat→Prop)(p:bC)(GA:GR)(gn:Nat)(MA:GR)(mn:Nat)(FA:GR)(fn:Nat):Prop where
 g:Sl w P GA gn (p.globals.map hq)
 m:Sl w P MA mn (p.af.map d4)
 f:Sl w P FA fn (p.funcs.map c7)
theorem m6(s:ByteArray):s.size=s.data.toList.length:=rfl
theorem tv(l:List (ByteArray×Bool))(k:Nat):(gh (l.take k)).length≤(gh (l.take (k+1))).length:=by
 cases h:l[k]? with
 | none=>rw[Gj (i:=k+1) (by have:=List.getElem?_eq_none_iff.1 h;omega),Gj (List.getElem?_eq_none_iff.1 h)];exact Gb _
 | some a=>rw[oB h];simp
theorem oA(l:List (ByteArray×Bool)):∀j k:Nat,(gh (l.take k)).length≤(gh (l.take (k+j))).length
 | 0,k=>Gb _
 | j+1,k=>Gu (oA l j k) (tv l (k+j))
theorem rG(l:List (ByteArray×Bool))(k:Nat):(gh (l.take k)).length≤(gh l).length:=by
 by_cases h:k≤l.length
 ·have:=oA l (l.length - k) k;rw[show k+(l.length - k)=l.length by omega,List.take_length] at this;exact this
 ·rw[Gj ad];exact Gb _
structure t8(p:bC):Prop where
 inits:∀g∈p.globals,-9223372036854775808≤g.2∧g.2≤9223372036854775807
 eI:∀m∈p.af,m.size≤9223372036854775807
 src:∀f∈p.funcs,l6 f.body∧f.body.num≤900000∧f.params.length≤1000
 len:(aS (eP p)).length≤262144
 ir:p.globals.length≤1000∧p.af.length≤1000∧p.funcs.length≤1000
theorem vu(b:aj)(h:l6 b):gq b:=(FQ s7 b h).1
namespace yZ
theorem xf{p:Prop}(h:p:=by
 generalize L:strOf (GT++(an++eB ji (p.funcs.take k)))=pre at *;have H:=ae L.symm;clear L;go_wp2;have da:(((pre++(⟨#[102,117,110,99,32]⟩:ByteArray))++f.name)++(⟨#[40]⟩:ByteArray)).size≤600000:=by
  have bT:(⟨#[102,117,110,99,32]⟩:ByteArray).size=5:=rfl;have e1:(⟨#[40]⟩:ByteArray).size=1:=rfl;simp only[ByteArray.size_append];omega
 generalize v:((pre++(⟨#[102,117,110,99,32]⟩:ByteArray))++f.name)++(⟨#[40]⟩:ByteArray)=am at *;have M:=ae v.symm;clear v a0 al af bv D;go_loopw [3,9] (fun sv bf bX=>∃j:Nat,j≤pn∧bf=.int .i64 j∧sv=.string (am++strOf (gh (f.params.take j)))∧Ext w bX∧ag bX w.heap.size 27 #[.slice GA gn gc,.slice MA mn mc,.slice (some ⟨b,o,none⟩) fn fc]∧Ext V bX) (fun _ bf _=>pn - (intOf bf).toNat)
 case atStart=>
  refine⟨0,ad,rfl,?_,bp.o,G.o,GN⟩;have:strOf (gh (f.params.take 0))=⟨#[]⟩:=rfl;rw[this];congr 1
  rw[ByteArray.ext_iff];simp
 case round=>
  obtain⟨j,ba,rfl,rfl,av,aT,hV⟩:=hrel;have K:=ae av;have F:=ae aT;have Q:=ae hV;obtain⟨a0,al,af⟩:=(bs.al hV).two;have az:(strOf (gh (f.params.take j))).size≤262144:=by
   rw[aI];exact Gu (rG f.params j) aj.o
  by_cases ak:j<pn
  ·obtain⟨eN,gO,q,cs,rfl,eL,Y,bq,a1,Z⟩:=(gl.on (Fr.ext hV)).fJ q3 ak;obtain rfl:=pg.1 bq;have c0:=Z 0 _ rfl;have c1:=Z 1 _ rfl;simp only[Gl] at c0;have bS:eN<_:=eL;obtain⟨ch,qm⟩:=q;have dw:=oB Y;have N:ch.size≤262144:=by
    have ac:=rG f.params (j+1);have J:=aj.o;rw[dw] at ac;simp only[Gd] at ac;rw[m6];omega
   simp only at dw c0 c1 N;have aa:=ae dw;clear av aT hV a1 Z Y bq eL dw;by_cases h0:0<j
   ·have co:decide ((j:Int) > 0)=true:=by simp;omega
    cases qm
    all_goals
     go_wp2;go_roundw
     case rel=>
      refine⟨j+1,ad,by go_num,?_,K.o,F.o,Q.o⟩;rw[aa.o,if_pos h0];congr 1
      simp only[show (⟨#[44,32]⟩:ByteArray)=strOf [44,32] from rfl,show (⟨#[109,117,116,101,120,32]⟩:ByteArray)=strOf [109,117,116,101,120,32] from rfl];exact wC
     case measure=>simp[intOf];omega
   ·have co:decide ((j:Int) > 0)=false:=by simp;omega
    cases qm
    all_goals
     go_wp2;go_roundw
     case rel=>
      refine⟨j+1,ad,by go_num,?_,K.o,F.o,Q.o⟩;rw[aa.o,if_neg h0];congr 1
      try simp only[show (⟨#[109,117,116,101,120,32]⟩:ByteArray)=strOf [109,117,116,101,120,32] from rfl]
      exact wC
     case measure=>simp[intOf];omega
  ·obtain rfl:pn=j:=ad;have aq:=ae (show gh (f.params.take pn)=gh f.params by rw[←U.o,List.take_length]);rw[aq.o] at az ⊢;clear av aT hV ak;go_wp2_with (fail);refine((show gq f.body from X.1) 1 f4 bn bc _ (aB X.2) (dE.on (Fr.ext Q.o)) R.o).mono ?_;rintro e iB ⟨rfl,S⟩;have cL:=ae (K.trans S);have P:=ae (F.al S);clear S a0 al af;go_wp2;go_roundw
   case rel=>
    refine⟨k+1,ad,by go_num,?_,cL.o,P.o⟩;obtain⟨cB,a3⟩:=i.o;rw[M.o,H.o,cB,a3];congr 1
    simp only[show (⟨#[102,117,110,99,32]⟩:ByteArray)=strOf [102,117,110,99,32] from rfl,show (⟨#[40]⟩:ByteArray)=strOf [40] from rfl,show (⟨#[41,32,123,10]⟩:ByteArray)=strOf [41,32,123,10] from rfl,show (⟨#[125,10]⟩:ByteArray)=strOf [125,10] from rfl];conv=>lhs;rw[←cM f.name]
    simp only[ah];simp
   case measure=>simp[intOf];omega
 ):p:=h
theorem xL{p:Prop}(h:p:=by
 clear hV a0 al af c0 c1 c2 aN bh a4 t cB;obtain⟨a0,al,af⟩:=hC.two;clear hC;cases re
 all_goals
  by_cases h0:0<z
  ·rw[if_pos h0] at a3;have c6:=s h0;have co:decide (z > 0)=true:=by simpa using h0
   have cR:-9223372036854775808≤z∧z≤9223372036854775807:=ad;have i:=ae a3;clear a3 h0 s;go_wp2_with (fail);refine(kK z _ cR).mono ?_;rintro e aH ⟨rfl,ar⟩;have aW:=ae (bp.trans (Fr.of ar));have bk:=ae (G.al (Fr.of ar));clear ar a0 al af;go_wp2;go_roundw
   case rel=>
    refine⟨k+1,ad,by go_num,?_,aW.o,bk.o⟩;rw[I.o,i.o,←hX];congr 1
    simp only[show (⟨#[114]⟩:ByteArray)=strOf [114] from rfl,show (⟨#[109,117,116,101,120,32]⟩:ByteArray)=strOf [109,117,116,101,120,32] from rfl,show (⟨#[91]⟩:ByteArray)=strOf [91] from rfl,show (⟨#[93]⟩:ByteArray)=strOf [93] from rfl,show (⟨#[59,10]⟩:ByteArray)=strOf [59,10] from rfl];conv=>lhs;rw[←cM nm]
    simp only[ah];simp
   case measure=>simp[intOf];omega
  ·rw[if_neg h0] at a3;have co:decide (z > 0)=false:=by simp;omega
   have i:=ae a3;clear a3 h0 s aX;go_wp2;go_roundw
   case rel=>
    refine⟨k+1,ad,by go_num,?_,bp.o,G.o⟩;rw[I.o,i.o];congr 1
    simp only[show (⟨#[114]⟩:ByteArray)=strOf [114] from rfl,show (⟨#[109,117,116,101,120,32]⟩:ByteArray)=strOf [109,117,116,101,120,32] from rfl,show (⟨#[59,10]⟩:ByteArray)=strOf [59,10] from rfl];conv=>lhs;rw[←cM nm]
    simp only[ah];simp
   case measure=>simp[intOf];omega
 ):p:=h
theorem sn{p:Prop}(h:p:=by
 have hlen:=hp.len;have cN:gn≤1000:=by have:=hp.ir;omega
 have cE:mn≤1000:=by have:=hp.ir;omega
 have dM:fn≤1000:=by have:=hp.ir;omega
 rw[pE] at hlen;simp only[Gd] at hlen;rw[pE];have b9:=ae hp;have cK:=ae aM;have dr:=ae hm;have bW:=ae aw;have b0:=aK dA lm lf;have l:=ae hlen;clear h aM hm aw dA lm lf hlen hp;go_enter func105,ntmps105;go_wp2;generalize bg:World.alloc _ _=W;have av:Ext w W:=bg▸GN.alloc _;have aT:ag W w.heap.size 27 #[.slice GA gn gc,.slice MA mn mc,.slice FA fn fc]:=bg▸GO;clear bg;have bh:=ae av;have a4:=ae aT;clear av aT;go_loopw [3,4] (fun sv E wr=>∃k:Nat,k≤gn∧E=.int .i64 k∧sv=.string (strOf (eB gN (p.globals.take k)))∧Ext w wr∧ag wr w.heap.size 27 #[.slice GA gn gc,.slice MA mn mc,.slice FA fn fc]) (fun _ E _=>gn - (intOf E).toNat)
 case atStart=>exact⟨0,ad,rfl,rfl,bh.o,a4.o⟩
 case round=>
  obtain⟨k,ap,rfl,rfl,av,aT⟩:=hrel;clear bh a4;have bh:=ae av;have a4:=ae aT;obtain⟨a0,al,af⟩:=aT.two;have bv:(strOf (eB gN (p.globals.take k))).size≤262144:=by
   rw[aI];have ac:=jP gN p.globals k;have J:=l.o;omega
  by_cases ao:k<gn
  ·obtain⟨b,o,g,cs,rfl,O,r,y,a1,Z⟩:=(cK.on (Fr.ext av)).fJ m0 ao;obtain rfl:=k5.1 y;have c0:=Z 0 _ rfl;have c1:=Z 1 _ rfl;simp only[Gl] at c0;have aN:b<wr.heap.size:=O;obtain⟨nm,z⟩:=g;have aX:=b9.inits _ (Ge r);have cB:=lP (f:=gN) r;have a3:=AA (nm,z);have hle:=jP gN p.globals (k+1);have d:(eB gN (p.globals.take (k+1))).length≤262144:=by have:=l.o;omega
   rw[cB,a3] at d;simp only[Gd] at d;have D:nm.size≤262144:=by rw[m6];omega
   simp only at aX a3 c0 c1 D;by_cases h0:z=0
   ·subst h0;have aL:=ae (show ((strOf (eB gN (p.globals.take k))++(⟨#[118,97,114,32]⟩:ByteArray))++nm)++(⟨#[59,10]⟩:ByteArray)=strOf (eB gN (p.globals.take (k+1))) by
     rw[cB,a3,show (⟨#[118,97,114,32]⟩:ByteArray)=strOf [118,97,114,32] from rfl,show (⟨#[59,10]⟩:ByteArray)=strOf [59,10] from rfl];conv=>lhs;rw[←cM nm]
     rw[ah,ah,ah];simp)
    clear av aT r y a1 Z cB a3 hle d aX O;go_wp2;go_roundw
    case rel=>exact⟨k+1,ad,by go_num,by rw[←aL.o],bh.o,a4.o⟩
    case measure=>simp[intOf];omega
   ·have co:(z != 0)=true:=by simpa using h0
    have ej:(z == 0)=false:=by simpa using h0
    rw[if_neg h0] at a3 d;simp only[Gd] at d;have s:(strOf (ks z)).size≤262144:=by rw[aI,hX];omega
    have aL:=ae (show ((((strOf (eB gN (p.globals.take k))++(⟨#[118,97,114,32]⟩:ByteArray))++nm)++(⟨#[32,61,32]⟩:ByteArray))++strOf (ks z))++(⟨#[59,10]⟩:ByteArray)=strOf (eB gN (p.globals.take (k+1))) by
     rw[cB,a3,show (⟨#[118,97,114,32]⟩:ByteArray)=strOf [118,97,114,32] from rfl,show (⟨#[59,10]⟩:ByteArray)=strOf [59,10] from rfl,show (⟨#[32,61,32]⟩:ByteArray)=strOf [32,61,32] from rfl,hX];conv=>lhs;rw[←cM nm]
     rw[ah,ah,ah,ah,ah];simp)
    clear av aT r y a1 Z cB a3 hle d O h0;go_wp2_with (fail);refine(kK z _ aX).mono ?_;rintro e aH ⟨rfl,ar⟩;have bp:=ae (bh.trans (Fr.of ar));have G:=ae (a4.al (Fr.of ar));clear ar a0 al af c0 c1;go_wp2;go_roundw
    case rel=>exact⟨k+1,ad,by go_num,by rw[←aL.o],bp.o,G.o⟩
    case measure=>simp[intOf];omega
  ·obtain rfl:gn=k:=ad;have n:=ae (show eB gN (p.globals.take gn)=eB gN p.globals by rw[←b0.1,List.take_length]);rw[n.o] at bv ⊢;clear av aT;generalize ax:eB gN p.globals=GT at *;go_wp2;clear a0 al af n;go_loopw [3,5] (fun sv E wr=>∃k:Nat,k≤mn∧E=.int .i64 k∧sv=.string (strOf (GT++eB jk (p.af.take k)))∧Ext w wr∧ag wr w.heap.size 27 #[.slice GA gn gc,.slice MA mn mc,.slice FA fn fc]) (fun _ E _=>mn - (intOf E).toNat)
   case atStart=>exact⟨0,ad,rfl,by simp[eB],bh.o,a4.o⟩
   case round=>
    obtain⟨k,ap,rfl,rfl,av,aT⟩:=hrel;clear bh a4 bv;have bh:=ae av;have a4:=ae aT;obtain⟨a0,al,af⟩:=aT.two;have bv:(strOf (GT++eB jk (p.af.take k))).size≤262144:=by
     rw[aI,Gd];have ac:=jP jk p.af k;have J:=l.o;omega
    by_cases T:k<mn
    ·obtain⟨b,o,m,cs,rfl,O,r,y,a1,Z⟩:=(dr.on (Fr.ext av)).fJ qd T;obtain rfl:=ez.1 y;have c0:=Z 0 _ rfl;have c1:=Z 1 _ rfl;have c2:=Z 2 _ rfl;simp only[Gl] at c0;have aN:b<wr.heap.size:=O;obtain⟨nm,re,z⟩:=m;have aX:=b9.eI _ (Ge r);have cB:=lP (f:=jk) r;have a3:=AO ⟨nm,re,z⟩;have hle:=jP jk p.af (k+1);have d:GT.length+(eB jk (p.af.take (k+1))).length≤262144:=by have:=l.o;omega
     rw[cB,a3] at d;simp only[Gd] at d;have D:nm.size≤262144:=by rw[m6];omega
     simp only at aX a3 c0 c1 c2 D;have s:0<z→(strOf (ks z)).size≤262144:=fun h0=>by
      rw[if_pos h0] at d;simp only[Gd] at d;rw[aI,hX];omega
     clear a1 Z hle d r y O av aT;have I:=ae cB;go_upto_region 13 with(fail);exact xK
    ·obtain rfl:mn=k:=ad;have n:=ae (show eB jk (p.af.take mn)=eB jk p.af by rw[←b0.2.1,List.take_length]);rw[n.o] at bv ⊢;clear av aT;generalize ay:eB jk p.af=an at *;go_wp2;clear a0 al af n;go_loopw [3,7] (fun sv E wr=>∃k:Nat,k≤fn∧E=.int .i64 k∧sv=.string (strOf (GT++(an++eB ji (p.funcs.take k))))∧Ext w wr∧ag wr w.heap.size 27 #[.slice GA gn gc,.slice MA mn mc,.slice FA fn fc]) (fun _ E _=>fn - (intOf E).toNat)
     case atStart=>exact⟨0,ad,rfl,by simp[eB],bh.o,a4.o⟩
     case round=>
      obtain⟨k,ap,rfl,rfl,av,aT⟩:=hrel;clear bh a4 bv;have bh:=ae av;have a4:=ae aT;obtain⟨a0,al,af⟩:=aT.two;have bv:(strOf (GT++(an++eB ji (p.funcs.take k)))).size≤262144:=by
       rw[aI,Gd,Gd];have ac:=jP ji p.funcs k;have J:=l.o;omega
      by_cases u:k<fn
      ·obtain⟨b,o,f,cs,rfl,O,r,y,a1,Z⟩:=(bW.on (Fr.ext av)).fJ nR u;obtain⟨PA,pn,pc,f4,bn,bc,rfl,bi,b1⟩:=jy y;have c0:=Z 0 _ rfl;have c1:=Z 1 _ rfl;have c2:=Z 2 _ rfl;simp only[Gl] at c0;have aN:b<wr.heap.size:=O;have aX:=b9.src _ (Ge r);have cB:=lP (f:=ji) r;have a3:=Ar f;have hle:=jP ji p.funcs (k+1);have d:GT.length+(an.length+(eB ji (p.funcs.take (k+1))).length)≤262144:=by have:=l.o;omega
       rw[cB,a3] at d;simp only[Gd] at d;have D:f.name.size≤262144:=by rw[m6];omega
       have bV:(gh f.params).length≤262144:=ad;have bG:(cm 1 f.body).length≤262144:=ad;have cd:f.params.length=pn:=by rw[←bi.1,Gf]
       have gm:pn≤1000:=ad;have aj:=ae bV;have R:=ae bG;have U:=ae cd;have X:=ai (vu f.body aX.1) aX.2.1;have aA:(strOf (cm 1 f.body)).size≤262144:=by rw[aI];exact bG
       have i:=ai cB a3;clear a1 Z hle d r y O av aT cB a3 aX bV bG cd;go_upto_region 23 with(fail);exact xe
      ·obtain rfl:fn=k:=ad;have n:=ae (show eB ji (p.funcs.take fn)=eB ji p.funcs by rw[←b0.2.2,List.take_length]);rw[n.o];clear av aT;go_wp2;go_ret;exact⟨ret_str (by rw[←ax,←ay]),bh.o⟩
 ):p:=h
end yZ
open yZ in
theorem rF(p:bC)(hp:t8 p)(GA:GR)(gn gc:Nat)(MA:GR)(mn mc:Nat)(FA:GR)(fn fc:Nat)(w:World)(h:gr w (au w) p GA gn MA mn FA fn) :
  Calls prog 105 #[.agg #[.slice GA gn gc,.slice MA mn mc,.slice FA fn fc]] w fun e ab=>e=.returned (.string (strOf (aS (eP p))))∧Ext w ab:=by
 exact sk
theorem Ca{l:List UInt8}(h:(db l).2.2=0):l.length≤262144:=by
 unfold db at h;split at h
 ·simp at h
 ·omega
theorem mU.print(hp:mU p):t8 p where
 inits:=fun g aM=>by have:=hp.inits g aM;omega
 eI:=fun m hm=>by have:=hp.eI m hm;omega
 src:=fun f aw=>⟨ik _ 4 (jm (hp.env aw) f.body 4 _ _ (hp.vars aw) (hp.funcs f aw).body),by
  have ac:f.body.num≤(p.funcs.map fun f=>f.body.num).sum:=iq (fun f:aG=>f.body.num) aw;have:=hp.ir;omega,by have:=(hp.funcs f aw).ir;omega⟩
 len:=Ca (rE hp)
 ir:=by
  have:=hp.mB;have:=hp.ti;have:=hp.AT;omega
theorem uX(w:World)(s:ByteArray)(cap:Nat)(hc:s.size≤cap)(hs:s.size≤1000000)(e:TypeId)(sp:Nat×Nat):eG (w.alloc (.cells (bytesRow s cap) e sp)) w.heap.size 0 cap s:=by
 refine⟨fun i aJ=>?_,by simp,hc,hs⟩;rw[Gv,cell_of_row _ _ i _ e sp (heap_alloc_new w _)];unfold bytesRow;rw[Array.getElem?_append_left (by simpa using aJ)];simp only[Array.getElem?_map];rw[Array.getElem?_eq_getElem (by simpa using aJ)];rfl
namespace y7
theorem xf{p:Prop}(h:p:=by
 go_wp2_with (fail);refine(gf f.name _ bN).mono ?_;rintro e aH ⟨rfl,ar⟩;rw[a.o];have aW:=ae (bp.trans ar);have bk:=ae (G.al ar);have az:=ae (bs.al ar);have d:=ae ar;clear ar a0 al af;obtain⟨a0,al,af⟩:=az.two;go_wp2_with (fail);refine((show CP f.body from rz f.body) 4 0 _ _ _ _ s.o (aB c9.o) ad (dE.on (Fr.ext d.o))).mono ?_;rintro e aQ ⟨rfl,bE⟩;have b6:=ae (aW.trans bE);have bK:=ae (bk.al bE);have i:=ae (az.al bE);have C:=ae (d.trans bE);clear bE a0 al af;obtain⟨a0,al,af⟩:=i.two;go_wp2;clear a0 al af;go_loopw [8] (fun bf bX=>∃j:Nat,j≤pn∧bf=.int .i64 j∧Ext w bX∧ag bX w.heap.size 27 #[.slice GA gn gc,.slice MA mn mc,.slice (some ⟨b,o,none⟩) fn fc]∧Ext V bX) (fun bf _=>pn - (intOf bf).toNat)
 case atStart=>exact⟨0,ad,rfl,b6.o,bK.o,C.o⟩
 case round=>
  obtain⟨j,ba,rfl,av,aT,hV⟩:=hrel;have K:=ae av;have F:=ae aT;have Q:=ae hV;obtain⟨a0,al,af⟩:=(bs.al hV).two;by_cases ak:j<pn
  ·obtain⟨eN,gO,q,cs,rfl,eL,Y,bq,a1,Z⟩:=(gl.on (Fr.ext hV)).fJ q3 ak;obtain rfl:=pg.1 bq;have c0:=Z 0 _ rfl;have c1:=Z 1 _ rfl;simp only[Gl] at c0;have bS:eN<_:=eL;have N:=v.params _ (Ge Y);obtain⟨ch,qm⟩:=q;simp only at N c0 c1;have B:=ae (show iD ch=true from N);have ac:=g5 N;clear av aT hV a1 Z Y bq eL N;go_wp2_with (fail);refine(gf ch _ ac).mono ?_;rintro e cy ⟨rfl,J⟩;rw[B.o];have X:=ae (K.trans J);have L:=ae (F.al J);have H:=ae (Q.trans J);clear J a0 al af c0 c1 bS;go_wp2;go_roundw
   case rel=>exact⟨j+1,ad,by go_num,X.o,L.o,H.o⟩
   case measure=>simp[intOf];omega
  ·obtain rfl:pn=j:=ad;clear av aT hV ak;go_wp2;go_roundw
   case rel=>exact⟨k+1,ad,by go_num,K.o,F.o⟩
   case measure=>simp[intOf];omega
 ):p:=h
theorem xL{p:Prop}(h:p:=by
 have bs:=ae hC;clear hV a0 al af c0 c1 c2 aN bh a4 t;obtain⟨a0,al,af⟩:=hC.two;clear hC;go_wp2_with (fail);refine(gf nm _ bN).mono ?_;rintro e aH ⟨rfl,ar⟩;rw[a.o];have aW:=ae (bp.trans ar);have bk:=ae (G.al ar);have U:=bs.al ar;clear ar a0 al af;obtain⟨a0,al,af⟩:=U.two;clear U
 cases re with
 | false=>
  exact Dc
 | true=>
  obtain rfl:z=0:=aX.2.2 rfl;exact Dc
 ):p:=h
theorem gB{p:Prop}(h:p:=by
 have aT:ag W w.heap.size 27 #[.slice GA gn gc,.slice MA mn mc,.slice FA fn fc]:=bg▸GO;clear bg;have bh:=ae av;have a4:=ae aT;obtain⟨a0,al,af⟩:=aT.two;clear av aT;go_wp2;clear a0 al af;go_loopw [3] (fun E wr=>∃k:Nat,k≤gn∧E=.int .i64 k∧Ext w wr∧ag wr w.heap.size 27 #[.slice GA gn gc,.slice MA mn mc,.slice FA fn fc]) (fun E _=>gn - (intOf E).toNat)
 case atStart=>exact⟨0,ad,rfl,bh.o,a4.o⟩
 case round=>
  obtain⟨k,ap,rfl,av,aT⟩:=hrel;clear bh a4;have bh:=ae av;have a4:=ae aT;obtain⟨a0,al,af⟩:=aT.two;by_cases ao:k<gn
  ·obtain⟨b,o,g,cs,rfl,O,r,y,a1,Z⟩:=(cK.on (Fr.ext av)).fJ m0 ao;obtain rfl:=k5.1 y;have c0:=Z 0 _ rfl;have c1:=Z 1 _ rfl;simp only[Gl] at c0;have aN:b<_:=O;obtain⟨nm,z⟩:=g;have aX:=b9.inits _ (Ge r);have I:br nm.data.toList=true:=ax.o nm (by simp only[a5,eD,Gk,GD];exact .inl (.inl ⟨_,Ge r,rfl⟩));have a:=ae (show iD nm=true from I);have bN:=g5 I;simp only at aX c0 c1;have bI:(z == -9223372036854775808)=false:=by simp;omega
   clear av aT r y a1 Z O I;go_wp2_with (fail);refine(gf nm _ bN).mono ?_;rintro e aH ⟨rfl,ar⟩;rw[a.o];have bp:=ae (bh.trans ar);have G:=ae (a4.al ar);have aF:=(ar.cell (j:=o+k*2+1) aN (fun h=>h)).trans c1;have bQ:b<aH.heap.size:=Gc aN ar.size;clear ar a0 al af c0 c1 aN;obtain⟨a0,al,af⟩:=G.two;go_wp2;go_roundw
   case rel=>exact⟨k+1,ad,by go_num,bp.o,G.o⟩
   case measure=>simp[intOf];omega
  ·obtain rfl:gn=k:=ad;clear av aT;go_wp2;clear a0 al af;go_loopw [4] (fun E wr=>∃k:Nat,k≤mn∧E=.int .i64 k∧Ext w wr∧ag wr w.heap.size 27 #[.slice GA gn gc,.slice MA mn mc,.slice FA fn fc]) (fun E _=>mn - (intOf E).toNat)
   case atStart=>exact⟨0,ad,rfl,bh.o,a4.o⟩
   case round=>
    obtain⟨k,ap,rfl,av,aT⟩:=hrel;clear bh a4;have bh:=ae av;have a4:=ae aT;obtain⟨a0,al,af⟩:=aT.two;by_cases T:k<mn
    ·obtain⟨b,o,m,cs,rfl,O,r,y,a1,Z⟩:=(dr.on (Fr.ext av)).fJ qd T;obtain rfl:=ez.1 y;have c0:=Z 0 _ rfl;have c1:=Z 1 _ rfl;have c2:=Z 2 _ rfl;simp only[Gl] at c0;have aN:b<_:=O;obtain⟨nm,re,z⟩:=m;have aX:=b9.eI _ (Ge r);have I:br nm.data.toList=true:=ax.o nm (by simp only[a5,Gk,GD];exact .inl (.inr ⟨_,Ge r,rfl⟩));have a:=ae (show iD nm=true from I);have bN:=g5 I;simp only at aX c0 c1 c2;have co:decide (z<0)=false:=by simp;omega
     have ej:decide (z > 64)=false:=by simp;omega
     clear a1 Z r y O av aT I;go_upto_region 12 with(fail);exact xK
    ·obtain rfl:mn=k:=ad;clear av aT;go_wp2;clear a0 al af;go_loopw [6] (fun E wr=>∃k:Nat,k≤fn∧E=.int .i64 k∧Ext w wr∧ag wr w.heap.size 27 #[.slice GA gn gc,.slice MA mn mc,.slice FA fn fc]) (fun E _=>fn - (intOf E).toNat)
     case atStart=>exact⟨0,ad,rfl,bh.o,a4.o⟩
     case round=>
      obtain⟨k,ap,rfl,av,aT⟩:=hrel;clear bh a4;have bh:=ae av;have a4:=ae aT;obtain⟨a0,al,af⟩:=aT.two;by_cases u:k<fn
      ·obtain⟨b,o,f,cs,rfl,O,r,y,a1,Z⟩:=(bW.on (Fr.ext av)).fJ nR u;obtain⟨PA,pn,pc,f4,bn,bc,rfl,bi,b1⟩:=jy y;have c0:=Z 0 _ rfl;have c1:=Z 1 _ rfl;have c2:=Z 2 _ rfl;simp only[Gl] at c0;have aN:b<_:=O;have cF:=Ge r;have I:br f.name.data.toList=true:=ax.o f.name (by simp only[a5,Gk,GD];exact .inr ⟨_,cF,rfl⟩);have a:=ae (show iD f.name=true from I);have bN:=g5 I;have cd:f.params.length=pn:=by rw[←bi.1,Gf]
       have gm:pn≤2:=by have:=(b9.funcs f cF).ir;omega
       have v:=ae (b9.funcs f cF);have s:=ae (jm (b9.env cF) f.body 4 _ _ (b9.vars cF) (b9.funcs f cF).body);have c9:=ae (b9.print.src f cF).2.1;clear a1 Z r y O av aT I cd cF;go_upto_region 18 with(fail);exact xe
      ·obtain rfl:fn=k:=ad;have ay:=ae (show gr _ (au _) p GA gn MA mn FA fn from ⟨cK.on (Fr.ext av),dr.on (Fr.ext av),bW.on (Fr.ext av)⟩);clear av aT;go_wp2_with (fail);refine(rF p b9.print GA gn gc MA mn mc FA fn fc _ ay.o).mono ?_;rintro e cJ ⟨rfl,aD⟩;have X:=ae (bh.trans aD);have kc:=run_bytes_of_string (P:=prog) cJ 9 131 5 (strOf (aS (eP p))) Tryz.underlying9 Tryz.underlying131 Tryz.underlying5;have hlen:(strOf (aS (eP p))).size≤262144:=by rw[aI];exact b9.print.len
       have D:=ae (rE b9.o);have aa:(strOf (aS (eP p))).data.toList=aS (eP p):=by simp[strOf]
       generalize hS:strOf (aS (eP p))=S at *;have a6:=grownCap_ge cJ S.size 0 5;generalize M:grownCap cJ S.size 0 5=cap at *;clear aD a0 al af M;go_wp2_with (fail);generalize hV:World.alloc _ _=V;have aR:eG V cJ.heap.size 0 cap S:=by
        rw[←hV];exact uX cJ S cap a6 ad _ _
       have t:Ext cJ V:=hV▸GN.alloc _;have aK:=ae (X.trans t);clear hV t kc;refine(uI S cJ.heap.size 0 cap V.drew (aR.on GN.drew) hlen).mono ?_;rintro e cv ⟨A,n,c,rfl,aL,ck,R⟩;have l:=ae (aK.drew.trans (Fr.of R));rw[show (db S.data.toList).2.2=0 by rw[aa];exact D.o];clear ck R aR;go_wp2;go_ret;exact⟨rfl,l.o⟩
 ):p:=h
theorem pY{p:Prop}(h:p:=by
 have b9:=ae hp;have cK:=ae aM;have dr:=ae hm;have bW:=ae aw;have ax:=ae hp.names;clear h aM hm aw dA lm lf hp;go_enter func75,ntmps75;exact gA
 ):p:=h
theorem sn{p:Prop}(h:p:=by
 exact pX
 ):p:=h
end y7
open y7 in
theorem CH(p:bC)(hp:mU p)(GA:GR)(gn gc:Nat)(MA:GR)(mn mc:Nat)(FA:GR)(fn fc:Nat)(w:World)(h:gr w (au w) p GA gn MA mn FA fn) :
  Calls prog 75 #[.agg #[.slice GA gn gc,.slice MA mn mc,.slice FA fn fc]] w fun e ab=>e=.returned (.bool true)∧Ext w ab:=by
 exact sk
end Go.Proofs.YtjhgbdckgkppnaaGreat
