/- Part 14 of the proof. No condition of its own. -/
import Derived.Test.YtbkhhfajcgkpgaaGreatQ08
import Derived.Test.YtbkhhfajcgkpgaaGreatQ13
namespace Go.Proofs.YtbkhhfajcgkpgaaGreat
open Go.RowKit Go.Proofs.Tryz
set_option maxRecDepth 1000000
set_option maxHeartbeats 25600000
set_option linter.unusedVariables false
variable{n:ByteArray}{G:Env}{T V ac:Ks}{cs:List Value}{l:List ax}{L d k:Nat}{P:Nat→Prop}{w:World}{s:ax}{f:az}{p:bB}
def al.eA:List ax→al
 | []=>.nil
 | .set v n e::l=>.set v n e (eA l)
 | .call g n aS::l=>.call g n aS (eA l)
 | .lock u r::l=>.lock u r (eA l)
 | .ite e th el::l=>.ite e th el (eA l)
 | .gb e th::l=>.gb e th (eA l)
 | .ret::l=>.ret (eA l)
theorem tH:∀l:List ax,(al.eA l).list=l
 | []=>rfl
 | s::l=>by cases s<;>simp only[al.eA,al.list,tH l]
theorem ma(l:List ax):cP (.eA l)=l.map a2:=by rw[cx,tH]
def ax.decl:ax→List ByteArray
 | .set true n _=>[n]
 | _=>[]
def decls(l:List ax):List ByteArray:=l.flatMap ax.decl
theorem qV(l m:List ax):decls (l++m)=decls l++decls m:=List.flatMap_append
def al.all:al→List ByteArray
 | .nil=>[]
 | .set true n _ rest=>n::rest.all
 | .set false _ _ rest=>rest.all
 | .call _ _ _ rest=>rest.all
 | .lock _ _ rest=>rest.all
 | .ite _ th el rest=>th.all++el.all++rest.all
 | .gb _ th rest=>th.all++rest.all
 | .ret rest=>rest.all
def ax.all:ax→List ByteArray
 | .set true n _=>[n]
 | .ite _ th el=>th.all++el.all
 | .gb _ th=>th.all
 | _=>[]
theorem all_cons(s:ax)(l:List ax):(al.eA (s::l)).all=s.all++(al.eA l).all:=by
 cases s with
 | set v n e=>cases v<;>rfl
 | ite e th el=>simp[al.eA,al.all,ax.all]
 | gb e th=>simp[al.eA,al.all,ax.all]
 | call g n aS=>rfl
 | lock u r=>rfl
 | ret=>rfl
theorem wW(l m:List ax):(al.eA (l++m)).all=(al.eA l).all++(al.eA m).all:=by
 induction l with
 | nil=>rfl
 | cons s l ao=>rw[J5,all_cons,all_cons,ao,J4]
theorem Ct(s:ax)(h:n∈s.decl):n∈s.all:=by
 cases s with
 | set v n e=>cases v<;>simp_all [ax.decl,ax.all]
 | _=>simp[ax.decl] at h
theorem xI(l:List ax)(h:n∈decls l):n∈(al.eA l).all:=by
 induction l with
 | nil=>simp[decls] at h
 | cons s l ao=>
  rw[all_cons];unfold decls at h;rw[Ka] at h;rcases JZ.1 h with h|h
  ·exact JZ.2 (.inl (Ct s h))
  ·exact JZ.2 (.inr (ao h))
def ax.num:ax→Nat
 | .ite _ th el=>th.num+el.num+1
 | .gb _ th=>th.num+1
 | _=>1
theorem kt(s:ax)(l:List ax):(al.eA (s::l)).num=s.num+(al.eA l).num:=by
 cases s<;>simp only[al.eA,al.num,ax.num]<;>omega
theorem xj(l m:List ax):(al.eA (l++m)).num=(al.eA l).num+(al.eA m).num:=by
 induction l with
 | nil=>simp[al.eA,al.num]
 | cons s l ao=>rw[J5,kt,kt,ao,Nat.add_assoc]
theorem sC(s:ax):(al.eA [s]).num=s.num:=by rw[kt];simp[al.eA,al.num]
theorem tE(l:List ax):l.length≤(al.eA l).num:=by
 induction l with
 | nil=>simp
 | cons s l ao=>
  rw[kt];have:1≤s.num:=by cases s<;>simp[ax.num]
  simp;omega
def E3(G:Env)(d:Nat)(V T:Ks):ax→Prop
 | .set true n e=>bp n.data.toList=true∧n∉T∧e.src V 2
 | .set false n e=>n∈V∧e.src V 2
 | .call _ n aS=>∃ps,(n,ps)∈G.funcs∧iz G V ps aS
 | .lock _ r=>rH G V r
 | .ite e th el=>∃k,d=k+1∧e.src V 2∧eN G k V T th∧eN G k V T el
 | .gb e th=>∃k,d=k+1∧e.src V 2∧eN G k V T th
 | .ret=>True
theorem mL:eN G d V T .nil:=by cases d<;>trivial
theorem mK:eN G d V T (.eA (s::l))↔E3 G d V T s∧eN G d (V++s.decl) (T++s.decl) (.eA l):=by
 cases s with
 | set v n e=>
  cases v
  ·simp only[al.eA,ax.decl,E3,Kf];cases d<;>exact⟨fun h=>⟨⟨h.1,h.2.1⟩,h.2.2⟩,fun h=>⟨h.1.1,h.1.2,h.2⟩⟩
  ·simp only[al.eA,ax.decl,E3]
   cases d<;>exact⟨fun h=>⟨⟨h.1,h.2.1,h.2.2.1⟩,h.2.2.2⟩,fun h=>⟨h.1.1,h.1.2.1,h.1.2.2,h.2⟩⟩
 | call g n aS=>
  exact y6
 | lock u r=>
  exact y6
 | ite e th el=>
  simp only[al.eA,ax.decl,E3,Kf]
  cases d with
  | zero=>exact⟨fun h=>h.elim,fun⟨⟨k,h,_⟩,_⟩=>ab⟩
  | succ d=>exact⟨fun h=>⟨⟨d,rfl,h.1,h.2.1,h.2.2.1⟩,h.2.2.2⟩,fun⟨⟨k,h,ae,aC,aT⟩,a9⟩=>by
    obtain rfl:d=k:=ab
    exact⟨ae,aC,aT,a9⟩⟩
 | gb e th=>
  simp only[al.eA,ax.decl,E3,Kf]
  cases d with
  | zero=>exact⟨fun h=>h.elim,fun⟨⟨k,h,_⟩,_⟩=>ab⟩
  | succ d=>exact⟨fun h=>⟨⟨d,rfl,h.1,h.2.1⟩,h.2.2⟩,fun⟨⟨k,h,ae,aC⟩,a9⟩=>by
    obtain rfl:d=k:=ab
    exact⟨ae,aC,a9⟩⟩
 | ret=>
  simp only[al.eA,ax.decl,E3,Kf,true_and];cases d<;>exact Iff.rfl
theorem sU{G:Env}{d:Nat}:∀{V T:Ks} {l m:List ax},eN G d V T (.eA (l++m))↔eN G d V T (.eA l)∧eN G d (V++decls l) (T++decls l) (.eA m)
 | V,T,[],m=>by simp[decls,al.eA,mL]
 | V,T,s::l,m=>by
  have ao:=sU (G:=G) (d:=d) (V:=V++s.decl) (T:=T++s.decl) (l:=l) (m:=m);rw[J5,mK,mK,ao];simp only[decls,Ka,J4];exact and_assoc.symm
theorem sV:eN G d V T (.eA [s])↔E3 G d V T s:=by
 rw[mK];exact⟨fun h=>h.1,fun h=>⟨h,mL⟩⟩
theorem dy{V ac:Ks}(h:V ⊆ ac):∀(d:Nat) (x:VE),x.src V d→x.src ac d
 | d,.num _,hx=>by cases d<;>exact hx
 | d,.gy s,hx=>by
  have g:s∈V:=by cases d<;>exact hx
  have:=h g
  cases d<;>exact this
 | d,.loc _,hx=>by cases d<;>exact hx.elim
 | d,.ia _,hx=>by cases d<;>exact hx.elim
 | 0,.un _ _,hx=>hx.elim
 | 0,.bin _ _ _,hx=>hx.elim
 | d+1,.un _ x,hx=>⟨hx.1,dy h d x hx.2⟩
 | d+1,.bin _ x y,hx=>⟨hx.1,dy h d x hx.2.1,dy h d y hx.2.2⟩
theorem kE(h:V ⊆ ac){r:eF}(aU:rH G V r):rH G ac r:=by
 rcases aU with⟨m,hm,hn,ae,aC⟩|hp
 ·exact .inl ⟨m,hm,hn,fun hs=>by obtain⟨e,he,av⟩:=ae hs;exact⟨e,he,dy h 2 e av⟩,aC⟩
 ·exact .inr hp
theorem np{G:Env}{V ac:Ks}(h:V ⊆ ac):∀(ps:List (ByteArray×Bool)) (aS:List da),iz G V ps aS→iz G ac ps aS
 | [],[],_=>trivial
 | p::ps,a::aS,aV=>by
  refine⟨?_,np h ps aS aV.2⟩
  cases a with
  | mx r=>exact⟨aV.1.1,kE h aV.1.2⟩
  | ex e=>exact⟨aV.1.1,dy h 2 e aV.1.2⟩
 | [],_::_,aV=>aV.elim
 | _::_,[],aV=>aV.elim
theorem Dv(h:V ⊆ ac)(m:Ks):V++m ⊆ ac++m:=fun x hx=>by
 rcases JZ.1 hx with hx|hx
 ·exact JZ.2 (.inl (h hx))
 ·exact JZ.2 (.inr hx)
theorem vb{A aJ:Ks}(h:∀x∈A,x∈aJ→x∈T):∀x∈A,x∈aJ++[n]→x∈T++[n]:=fun x hx hm=>by
 rcases JZ.1 hm with hm|hm
 ·exact JZ.2 (.inl (h x hx hm))
 ·exact JZ.2 (.inr hm)
theorem cW{G:Env}:∀(b:al) (d a:Nat) (V ac T aJ:Ks),V ⊆ ac→(∀n∈b.all,n∈aJ→n∈T)→d≤a→eN G d V T b→eN G a ac aJ b
 | .nil,d,a,V,ac,T,aJ,hV,hT,hd,h=>mL
 | .set true n e rest,d,a,V,ac,T,aJ,hV,hT,hd,h=>by
  have q:bp n.data.toList=true∧n∉T∧e.src V 2∧eN G d (V++[n]) (T++[n]) rest:=by cases d<;>exact h
  have ao:=cW rest d a (V++[n]) (ac++[n]) (T++[n]) (aJ++[n]) (Dv hV _) (vb fun x hx=>hT x (by simp[al.all,hx])) hd q.2.2.2;have r:bp n.data.toList=true∧n∉aJ∧e.src ac 2∧eN G a (ac++[n]) (aJ++[n]) rest:=⟨q.1,fun hm=>q.2.1 (hT n (by simp[al.all]) hm),dy hV 2 e q.2.2.1,ao⟩
  cases a<;>exact r
 | .set false n e rest,d,a,V,ac,T,aJ,hV,hT,hd,h=>by
  have q:n∈V∧e.src V 2∧eN G d V T rest:=by cases d<;>exact h
  have ao:=cW rest d a V ac T aJ hV (fun x hx=>hT x (by simp[al.all,hx])) hd q.2.2;have r:n∈ac∧e.src ac 2∧eN G a ac aJ rest:=⟨hV q.1,dy hV 2 e q.2.1,ao⟩
  cases a<;>exact r
 | .call g n aS rest,d,a,V,ac,T,aJ,hV,hT,hd,h=>by
  have q:(∃ps,(n,ps)∈G.funcs∧iz G V ps aS)∧eN G d V T rest:=by cases d<;>exact h
  have ao:=cW rest d a V ac T aJ hV (fun x hx=>hT x (by simp[al.all,hx])) hd q.2;obtain⟨ps,ch,az⟩:=q.1;have r:(∃ps,(n,ps)∈G.funcs∧iz G ac ps aS)∧eN G a ac aJ rest:=⟨⟨ps,ch,np hV ps aS az⟩,ao⟩
  cases a<;>exact r
 | .lock u r rest,d,a,V,ac,T,aJ,hV,hT,hd,h=>by
  have q:rH G V r∧eN G d V T rest:=by cases d<;>exact h
  have ao:=cW rest d a V ac T aJ hV (fun x hx=>hT x (by simp[al.all,hx])) hd q.2;have r:rH G ac r∧eN G a ac aJ rest:=⟨kE hV q.1,ao⟩
  cases a<;>exact r
 | .ite e th el rest,0,a,V,ac,T,aJ,hV,hT,hd,h=>h.elim
 | .gb e th rest,0,a,V,ac,T,aJ,hV,hT,hd,h=>h.elim
 | .ite e th el rest,d+1,0,V,ac,T,aJ,hV,hT,hd,h=>ab
 | .gb e th rest,d+1,0,V,ac,T,aJ,hV,hT,hd,h=>ab
 | .ite e th el rest,d+1,a+1,V,ac,T,aJ,hV,hT,hd,h=>
  ⟨dy hV 2 e h.1,cW th d a V ac T aJ hV (fun x hx=>hT x (by simp[al.all,hx])) ab h.2.1,
   cW el d a V ac T aJ hV (fun x hx=>hT x (by simp[al.all,hx])) ab h.2.2.1,cW rest (d+1) (a+1) V ac T aJ hV (fun x hx=>hT x (by simp[al.all,hx])) hd h.2.2.2⟩
 | .gb e th rest,d+1,a+1,V,ac,T,aJ,hV,hT,hd,h=>
  ⟨dy hV 2 e h.1,cW th d a V ac T aJ hV (fun x hx=>hT x (by simp[al.all,hx])) ab h.2.1,cW rest (d+1) (a+1) V ac T aJ hV (fun x hx=>hT x (by simp[al.all,hx])) hd h.2.2⟩
 | .ret rest,d,a,V,ac,T,aJ,hV,hT,hd,h=>by
  have q:eN G d V T rest:=by cases d<;>exact h
  have ao:=cW rest d a V ac T aJ hV (fun x hx=>hT x (by simpa[al.all] using hx)) hd q;cases a<;>exact ao
def gW(k:Nat):ByteArray:=⟨#[118,UInt8.ofNat (97+k % 26),UInt8.ofNat (97+k / 26 % 26)]⟩
theorem yt{j:Nat}(bc:j<26)(aj:k<26)(h:gW j=gW k):j=k:=by
 unfold gW at h;rw[ByteArray.ext_iff] at h;have aC:=congrArg (fun a:Array UInt8=>a[1]!) h;have aT:(UInt8.ofNat (97+j % 26)).toNat=(UInt8.ofNat (97+k % 26)).toNat:=congrArg UInt8.toNat aC;simp at aT;omega
theorem DE(aj:k<26):bp (gW k).data.toList=true:=by
 have:∀k:Fin 26,bp (gW k.val).data.toList=true:=by decide
 exact this ⟨k,aj⟩
structure Made(G:Env)(d:Nat)(V T:Ks)(L X:Nat)(l:List ax):Prop where
 wf:eN G d V T (.eA l)
 all:∀n∈(al.eA l).all,∃k,X≤k∧k<L∧n=gW k
 num:(al.eA l).num≤2*(L - X)
 le:X≤L
theorem Made.nil(G:Env)(d:Nat)(V T:Ks)(L:Nat):Made G d V T L L []:=⟨mL,fun n h=>by simp[al.eA,al.all] at h,by simp[al.eA,al.num],JQ _⟩
def l0(T:Ks)(L:Nat):Prop:=∀k,k<L→gW k∉T
theorem Made.free{X:Nat}(h:Made G d V T L X l)(bR:L≤26)(aD:l0 T L):l0 (T++decls l) X:=fun k aj hm=>by
 rcases JZ.1 hm with hm|hm
 ·exact aD k (aH h.le) hm
 ·obtain⟨j,ae,aC,aT⟩:=h.all _ (xI l hm);have:=yt ab ab aT;omega
theorem Made.snoc{aU bE:Nat}(h:Made G d V T L aU l){m:List ax}(hm:eN G d (V++decls l) (T++decls l) (.eA m))(aV:∀n∈(al.eA m).all,∃k,bE≤k∧k<aU∧n=gW k)
  (hn:(al.eA m).num≤2*(aU - bE)) (hle:bE≤aU):Made G d V T L bE (l++m):=by
 refine⟨sU.2 ⟨h.wf,hm⟩,fun n hn=>?_,?_,J7 hle h.le⟩
 ·rw[wW] at hn;rcases JZ.1 hn with hn|hn
  ·obtain⟨k,ae,aC,aT⟩:=h.all n hn;exact⟨k,ab,aC,aT⟩
  ·obtain⟨k,ae,aC,aT⟩:=aV n hn;exact⟨k,ae,by have:=h.le;omega,aT⟩
 ·rw[xj];have ae:=h.num;have aC:=h.le;omega
def dv(i:Nat):ByteArray:=⟨#[103,UInt8.ofNat (48+i)]⟩
def gk(i:Nat):ByteArray:=⟨#[UInt8.ofNat (97+i)]⟩
def iJ(i:Nat):ByteArray:=if i=0 then ij else ⟨#[102,UInt8.ofNat (48+i)]⟩
def tL(i:Nat):ByteArray:=⟨#[112,UInt8.ofNat (48+i)]⟩
def eL:Nat→List ByteArray
 | 0=>[]
 | n+1=>tL (n+1)::eL n
def wh(ng nm nf:Nat):List ByteArray:=(List.range ng).map dv++(List.range nm).map gk++(List.range nf).map iJ
def nE:List ByteArray:=wh 2 4 4++eL 2
theorem px:nE.Nodup:=by
 have h:(nE.map fun s=>s.data.toList).Nodup:=by decide
 exact(List.pairwise_map.1 h).imp fun a1 e=>a1 (by rw[e])
theorem sf:∀s∈nE,bp s.data.toList=true:=by decide
theorem xR:l0 nE 26:=by
 have h:∀k:Fin 26,(gW k.val).data.toList∉nE.map fun s=>s.data.toList:=by decide
 intro k aj hm;exact h ⟨k,aj⟩ (Ke.2 ⟨_,hm,rfl⟩)
theorem vI{n:Nat}(h:n≤2):(eL n).Sublist (eL 2):=by
 obtain rfl|rfl|rfl:n=0∨n=1∨n=2:=ab
 ·exact List.nil_sublist _
 ·exact List.Sublist.cons _ (List.Sublist.refl _)
 ·exact List.Sublist.refl _
theorem Dz{ng nm nf n:Nat}(ae:ng≤2)(aC:nm≤4)(aT:nf≤4)(a9:n≤2):(wh ng nm nf++eL n).Sublist nE:=by
 unfold nE wh;refine List.Sublist.append (List.Sublist.append (List.Sublist.append ?_ ?_) ?_) (vI a9)
 ·exact(List.range_sublist.2 ae).map _
 ·exact(List.range_sublist.2 aC).map _
 ·exact(List.range_sublist.2 aT).map _
theorem mZ{α:Type}{f:α→ByteArray}{h:Nat→ByteArray}{l:List α}(hl:∀i x,l[i]?=some x→f x=h i):l.map f=(List.range l.length).map h:=by
 apply List.ext_getElem?
 intro i;rw[List.getElem?_map,List.getElem?_map];by_cases al:i<l.length
 ·have hx:l[i]?=some l[i]:=List.getElem?_eq_getElem al;rw[hx,List.getElem?_range al];simp[hl i _ hx]
 ·rw[List.getElem?_eq_none ab,List.getElem?_eq_none (by simp;omega)];rfl
structure gh(p:bB):Prop where
 ng:p.globals.length≤2
 nm:1≤p.ae.length∧p.ae.length≤4
 nf:1≤p.funcs.length∧p.funcs.length≤4
 gs:∀i g,p.globals[i]?=some g→g.1=dv i∧-2≤g.2∧g.2≤2
 ms:∀i m,p.ae[i]?=some m→m.name=gk i∧0≤m.size∧m.size≤3∧(m.re=true→m.size=0)
 fs:∀i f,p.funcs[i]?=some f→f.name=iJ i∧(∃n,n≤2∧f.params.map (·.1)=eL n)∧(i=0→f.params=[])
theorem gh.wh{p:bB}(h:gh p):a5 p=wh p.globals.length p.ae.length p.funcs.length:=by
 unfold a5 ft YtbkhhfajcgkpgaaGreat.wh;rw[mZ fun i x hx=>(h.gs i x hx).1,mZ fun i x hx=>(h.ms i x hx).1,mZ fun i x hx=>(h.fs i x hx).1]
theorem gh.sub(h:gh p)(aD:f∈p.funcs):(a5 p++f.params.map (·.1)).Sublist nE:=by
 obtain⟨i,al⟩:=List.getElem?_of_mem aD;obtain⟨n,hn,hp⟩:=(h.fs i f al).2.1;rw[h.wh,hp];exact Dz h.ng h.nm.2 h.nf.2 hn
theorem lQ:∀n,(eL n).length=n
 | 0=>rfl
 | n+1=>by simp[eL,lQ n]
theorem gh.jm(h:gh p)(aD:f∈p.funcs):f.params.length≤2:=by
 obtain⟨i,al⟩:=List.getElem?_of_mem aD;obtain⟨n,hn,hp⟩:=(h.fs i f al).2.1;have:=congrArg List.length hp;rw[JU,lQ] at this;omega
theorem gh.free(h:gh p)(aD:f∈p.funcs):l0 (a5 p++f.params.map (·.1)) 26:=fun k aj hm=>xR k aj ((h.sub aD).subset hm)
theorem gh.IH(h:gh p):∃f,p.funcs[0]?=some f∧f.name=ij∧f.params=[]:=by
 have:0<p.funcs.length:=h.nf.1;have hx:p.funcs[0]?=some p.funcs[0]:=List.getElem?_eq_getElem this;exact⟨_,hx,(h.fs 0 _ hx).1,(h.fs 0 _ hx).2.2 rfl⟩
theorem gh.env(h:gh p)(aD:f∈p.funcs):nt (gj p f):=by
 have aj:∀{f:az},f∈p.funcs→∀s∈a5 p++f.params.map (·.1),bp s.data.toList=true:=fun aD s hs=>sf s ((h.sub aD).subset hs);refine⟨fun m hm=>aj aD _ ?_,fun q bm=>aj aD _ ?_,fun g aJ=>?_⟩
 ·simp only[a5,JZ,Ke];exact .inl (.inl (.inr ⟨m,hm,rfl⟩))
 ·simp only[JZ,Ke];exact .inr ⟨q,bm,rfl⟩
 ·obtain⟨k,cn,rfl⟩:=Ke.1 aJ;refine⟨aj cn _ ?_,h.jm cn⟩;simp only[a5,JZ,Ke];exact .inl (.inr ⟨k,cn,rfl⟩)
theorem gh.vars(h:gh p)(aD:f∈p.funcs):dx (ft p++cn f.params):=fun s hs=>by
 refine sf s ((h.sub aD).subset ?_);rcases JZ.1 hs with hs|hs
 ·exact JZ.2 (.inl (by simp only[a5,JZ];exact .inl (.inl hs)))
 ·obtain⟨q,bm,rfl⟩:=Ke.1 hs;exact JZ.2 (.inr (Ke.2 ⟨q,(List.mem_filter.1 bm).1,rfl⟩))
theorem gh.wf(h:gh p)(O:∀f∈p.funcs,eN (gj p f) 4 (ft p++cn f.params) (a5 p++f.params.map (·.1)) f.body)(hn:(p.funcs.map fun f=>f.body.num).sum≤64):oE p:=by
 obtain⟨f0,h0,b,a⟩:=h.IH;have bu:=JT h0;have hs:=h.sub bu;rw[a] at hs;simp only[Kd,Kf] at hs;refine⟨fun s hm=>sf s (hs.subset hm),hs.nodup px,by have:=h.ng;omega,by have:=h.nm;omega,by have:=h.nf;omega,fun g aJ=>?_,fun m hm=>?_,fun f aD=>?_,⟨0,f0,h0,b,a⟩,hn⟩
 ·obtain⟨i,al⟩:=List.getElem?_of_mem aJ;have:=(h.gs i g al).2;omega
 ·obtain⟨i,al⟩:=List.getElem?_of_mem hm;have:=(h.ms i m al).2;exact⟨this.1,ab,this.2.2⟩
 ·refine⟨(h.env aD).params,h.jm aD,(h.sub aD).nodup px,O f aD⟩
theorem oi(g:ByteArray×Int):(h8 g).sz=2:=rfl
theorem mb{g:ByteArray×Int}:(h8 g).rep w P cs↔cs=[.string g.1,.int .i64 g.2]:=by
 unfold h8;rw[bu,b9];exact Ca
theorem tq(g:ByteArray×Bool):(df g).sz=2:=rfl
theorem qZ{g:ByteArray×Bool}:(df g).rep w P cs↔cs=[.string g.1,.bool g.2]:=by
 exact Fx
theorem pg(f:az):(dd f).sz=3:=rfl
theorem kj(h:(dd f).rep w P cs):∃A n c B m d,cs=[.string f.name,.slice A n c,.slice B m d]∧Sl w P A n (f.params.map df)∧Sl w P B m (cP f.body):=by
 unfold dd at h;rw[bu,b9] at h;obtain⟨y,rfl,h⟩:=h;obtain⟨A,n,c,bm,rfl,_,ae,h⟩:=aD.1 h;obtain⟨B,m,d,aa,rfl,_,aC,h⟩:=aD.1 h;rw[aJ] at h;subst h;exact⟨_,_,_,_,_,_,rfl,ae,aC⟩
theorem sd(m:bA):(dZ m).sz=3:=rfl
theorem iS(n:Int):lp n=aR (hf n):=rfl
structure g1(w:World)(P:Nat→Prop)(p:bB)(GA:Kr)(gn:Nat)(MA:Kr)(mn:Nat)(FA:Kr)(fn:Nat):Prop where
 g:Sl w P GA gn (p.globals.map h8)
 m:Sl w P MA mn (p.ae.map dZ)
 f:Sl w P FA fn (p.funcs.map dd)
theorem ou(s:ByteArray):s.size=s.data.toList.length:=rfl
theorem vO(l:List (ByteArray×Bool))(k:Nat):(gT (l.take k)).length≤(gT (l.take (k+1))).length:=by
 cases h:l[k]? with
 | none=>rw[JY (i:=k+1) (by have:=List.getElem?_eq_none_iff.1 h;omega),JY (List.getElem?_eq_none_iff.1 h)];exact JQ _
 | some a=>rw[p1 h];simp
theorem pZ(l:List (ByteArray×Bool)):∀j k:Nat,(gT (l.take k)).length≤(gT (l.take (k+j))).length
 | 0,k=>JQ _
 | j+1,k=>J7 (pZ l j k) (vO l (k+j))
theorem tO(l:List (ByteArray×Bool))(k:Nat):(gT (l.take k)).length≤(gT l).length:=by
 by_cases h:k≤l.length
 ·have:=pZ l (l.length - k) k;rw[show k+(l.length - k)=l.length by omega,List.take_length] at this;exact this
 ·rw[JY ab];exact JQ _
structure wE(p:bB):Prop where
 inits:∀g∈p.globals,-9223372036854775808≤g.2∧g.2≤9223372036854775807
 gm:∀m∈p.ae,m.size≤9223372036854775807
 src:∀f∈p.funcs,nc f.body∧f.body.num≤900000∧f.params.length≤1000
 len:(aR (fk p)).length≤262144
 jm:p.globals.length≤1000∧p.ae.length≤1000∧p.funcs.length≤1000
theorem x2(b:al)(h:nc b):g0 b:=(IG vw b h).1
namespace By
theorem zw{p:Prop}(h:p:=by
 generalize E:strOf (GT++(an++eW j3 (p.funcs.take k)))=pre at *;have y:=ad E.symm;clear E;go_wp2;have M:(((pre++(⟨#[102,117,110,99,32]⟩:ByteArray))++f.name)++(⟨#[40]⟩:ByteArray)).size≤600000:=by
  have cG:(⟨#[102,117,110,99,32]⟩:ByteArray).size=5:=rfl;have e1:(⟨#[40]⟩:ByteArray).size=1:=rfl;simp only[ByteArray.size_append];omega
 generalize u:((pre++(⟨#[102,117,110,99,32]⟩:ByteArray))++f.name)++(⟨#[40]⟩:ByteArray)=am at *;have N:=ad u.symm;clear u a0 ap ak bi v;go_loopw [3,9] (fun sv a1 bV=>∃j:Nat,j≤pn∧a1=.int .i64 j∧sv=.string (am++strOf (gT (f.params.take j)))∧Ext w bV∧af bV w.heap.size 71 #[.slice GA gn gc,.slice MA mn mc,.slice (some ⟨b,o,none⟩) fn fc]∧Ext V bV) (fun _ a1 _=>pn - (intOf a1).toNat)
 case atStart=>
  refine⟨0,ab,rfl,?_,br.o,G.o,Kn⟩;have:strOf (gT (f.params.take 0))=⟨#[]⟩:=rfl;rw[this];congr 1
  rw[ByteArray.ext_iff];simp
 case round=>
  obtain⟨j,bc,rfl,rfl,aF,aL,hV⟩:=hrel;obtain⟨L,I,R⟩:=ez aF aL hV;obtain⟨a0,ap,ak⟩:=(bL.ak hV).two;have ay:(strOf (gT (f.params.take j))).size≤262144:=by
   rw[aG];exact J7 (tO f.params j) a4.o
  by_cases Y:j<pn
  ·obtain⟨pb,gL,q,cs,rfl,eI,T,ax,a3,Z⟩:=(gG.on (Fr.ext hV)).gN tq Y;obtain rfl:=qZ.1 ax;have c0:=Z 0 _ rfl;have c1:=Z 1 _ rfl;simp only[J0] at c0;have al:pb<_:=eI;obtain⟨ca,qm⟩:=q;have e4:=p1 T;have Q:ca.size≤262144:=by
    have ae:=tO f.params (j+1);have aC:=a4.o;rw[e4] at ae;simp only[JS] at ae;rw[ou];omega
   simp only at e4 c0 c1 Q;have aa:=ad e4;clear aF aL hV a3 Z T ax eI e4;by_cases h0:0<j
   ·have q1:decide ((j:Int) > 0)=true:=by simp;omega
    cases qm
    all_goals
     go_wp2;go_roundw
     case rel=>
      refine⟨j+1,ab,by go_num,?_,L.o,I.o,R.o⟩;rw[aa.o,if_pos h0];congr 1
      simp only[show (⟨#[44,32]⟩:ByteArray)=strOf [44,32] from rfl,show (⟨#[109,117,116,101,120,32]⟩:ByteArray)=strOf [109,117,116,101,120,32] from rfl];exact y2
     case measure=>exact aB
   ·have q1:decide ((j:Int) > 0)=false:=by simp;omega
    cases qm
    all_goals
     go_wp2;go_roundw
     case rel=>
      refine⟨j+1,ab,by go_num,?_,L.o,I.o,R.o⟩;rw[aa.o,if_neg h0];congr 1
      try simp only[show (⟨#[109,117,116,101,120,32]⟩:ByteArray)=strOf [109,117,116,101,120,32] from rfl]
      exact y2
     case measure=>exact aB
  ·obtain rfl:pn=j:=ab;have ao:=ad (show gT (f.params.take pn)=gT f.params by rw[←U.o,List.take_length]);rw[ao.o] at ay ⊢;clear aF aL hV Y;go_wp2_with(fail);refine((show g0 f.body from X.1) 1 f0 bn eL _ (aH X.2) (dm.on (Fr.ext R.o)) H.o).mono ?_;rintro e hH ⟨rfl,S⟩;have ew:=ad (L.trans S);have P:=ad (I.ak S);clear S a0 ap ak;go_wp2;go_roundw
   case rel=>
    refine⟨k+1,ab,by go_num,?_,ew.o,P.o⟩;obtain⟨cf,ah⟩:=i.o;rw[N.o,y.o,cf,ah];congr 1
    simp only[show (⟨#[102,117,110,99,32]⟩:ByteArray)=strOf [102,117,110,99,32] from rfl,show (⟨#[40]⟩:ByteArray)=strOf [40] from rfl,show (⟨#[41,32,123,10]⟩:ByteArray)=strOf [41,32,123,10] from rfl,show (⟨#[125,10]⟩:ByteArray)=strOf [125,10] from rfl];conv=>lhs;rw[←cT f.name]
    simp only[ag];simp
   case measure=>exact aB
 ):p:=h
theorem Ap{p:Prop}(h:p:=by
 clear hV a0 ap ak c0 c1 c2 aW a2 bs t cf;obtain⟨a0,ap,ak⟩:=hC.two;clear hC;cases re
 all_goals
  by_cases h0:0<z
  ·rw[if_pos h0] at ah;have bl:=s h0;have q1:decide (z > 0)=true:=by simpa using h0
   have bx:-9223372036854775808≤z∧z≤9223372036854775807:=ab;have i:=ad ah;clear ah h0 s;go_wp2_with(fail);refine(lO z _ bx).mono ?_;rintro e aN ⟨rfl,ar⟩;have J:=ad (br.trans (Fr.of ar));have bY:=ad (G.ak (Fr.of ar));clear ar a0 ap ak;go_wp2;go_roundw
   case rel=>
    refine⟨k+1,ab,by go_num,?_,J.o,bY.o⟩;rw[K.o,i.o,←iS];congr 1
    simp only[show (⟨#[114]⟩:ByteArray)=strOf [114] from rfl,show (⟨#[109,117,116,101,120,32]⟩:ByteArray)=strOf [109,117,116,101,120,32] from rfl,show (⟨#[91]⟩:ByteArray)=strOf [91] from rfl,show (⟨#[93]⟩:ByteArray)=strOf [93] from rfl,show (⟨#[59,10]⟩:ByteArray)=strOf [59,10] from rfl];conv=>lhs;rw[←cT nm]
    simp only[ag];simp
   case measure=>exact aB
  ·rw[if_neg h0] at ah;have q1:decide (z > 0)=false:=by simp;omega
   have i:=ad ah;clear ah h0 s aU;go_wp2;go_roundw
   case rel=>
    refine⟨k+1,ab,by go_num,?_,br.o,G.o⟩;rw[K.o,i.o];congr 1
    simp only[show (⟨#[114]⟩:ByteArray)=strOf [114] from rfl,show (⟨#[109,117,116,101,120,32]⟩:ByteArray)=strOf [109,117,116,101,120,32] from rfl,show (⟨#[59,10]⟩:ByteArray)=strOf [59,10] from rfl];conv=>lhs;rw[←cT nm]
    simp only[ag];simp
   case measure=>exact aB
 ):p:=h
theorem uU{p:Prop}(h:p:=by
 have hlen:=hp.len;have cy:gn≤1000:=by have:=hp.jm;omega
 have co:mn≤1000:=by have:=hp.jm;omega
 have ds:fn≤1000:=by have:=hp.jm;omega
 rw[ry] at hlen;simp only[JS] at hlen;rw[ry];obtain⟨b4,bS,dv,bX⟩:=iF hp aJ hm aD;have bK:=aQ di lm lf;have F:=ad hlen;clear h aJ hm aD di lm lf hlen hp;go_enter func114,ntmps114;go_wp2;generalize bg:World.alloc _ _=W;have aF:Ext w W:=bg▸Kn.alloc _;have aL:af W w.heap.size 71 #[.slice GA gn gc,.slice MA mn mc,.slice FA fn fc]:=bg▸Ko;clear bg;obtain⟨a2,bs⟩:=aM aF aL;clear aF aL;go_loopw [3,4] (fun sv ba wr=>∃k:Nat,k≤gn∧ba=.int .i64 k∧sv=.string (strOf (eW ho (p.globals.take k)))∧Ext w wr∧af wr w.heap.size 71 #[.slice GA gn gc,.slice MA mn mc,.slice FA fn fc]) (fun _ ba _=>gn - (intOf ba).toNat)
 case atStart=>exact⟨0,ab,rfl,rfl,a2.o,bs.o⟩
 case round=>
  obtain⟨k,aj,rfl,rfl,aF,aL⟩:=hrel;clear a2 bs;obtain⟨a2,bs⟩:=aM aF aL;obtain⟨a0,ap,ak⟩:=aL.two;have bi:(strOf (eW ho (p.globals.take k))).size≤262144:=by
   rw[aG];have ae:=kH ho p.globals k;have aC:=F.o;omega
  by_cases aw:k<gn
  ·obtain⟨b,o,g,cs,rfl,O,r,aV,a3,Z⟩:=(bS.on (Fr.ext aF)).gN oi aw;obtain rfl:=mb.1 aV;have c0:=Z 0 _ rfl;have c1:=Z 1 _ rfl;simp only[J0] at c0;have aW:b<wr.heap.size:=O;obtain⟨nm,z⟩:=g;have aU:=b4.inits _ (JT r);have cf:=mQ (f:=ho) r;have ah:=CM (nm,z);have hle:=kH ho p.globals (k+1);have l:(eW ho (p.globals.take (k+1))).length≤262144:=by have:=F.o;omega
   rw[cf,ah] at l;simp only[JS] at l;have v:nm.size≤262144:=by rw[ou];omega
   simp only at aU ah c0 c1 v;by_cases h0:z=0
   ·subst h0;have bt:=ad (show ((strOf (eW ho (p.globals.take k))++(⟨#[118,97,114,32]⟩:ByteArray))++nm)++(⟨#[59,10]⟩:ByteArray)=strOf (eW ho (p.globals.take (k+1))) by
     rw[cf,ah,show (⟨#[118,97,114,32]⟩:ByteArray)=strOf [118,97,114,32] from rfl,show (⟨#[59,10]⟩:ByteArray)=strOf [59,10] from rfl];conv=>lhs;rw[←cT nm]
     rw[ag,ag,ag];simp)
    clear aF aL r aV a3 Z cf ah hle l aU O;go_wp2;go_roundw
    case rel=>exact⟨k+1,ab,by go_num,by rw[←bt.o],a2.o,bs.o⟩
    case measure=>exact aB
   ·have q1:(z != 0)=true:=by simpa using h0
    have cB:(z == 0)=false:=by simpa using h0
    rw[if_neg h0] at ah l;simp only[JS] at l;have s:(strOf (lp z)).size≤262144:=by rw[aG,iS];omega
    have bt:=ad (show ((((strOf (eW ho (p.globals.take k))++(⟨#[118,97,114,32]⟩:ByteArray))++nm)++(⟨#[32,61,32]⟩:ByteArray))++strOf (lp z))++(⟨#[59,10]⟩:ByteArray)=strOf (eW ho (p.globals.take (k+1))) by
     rw[cf,ah,show (⟨#[118,97,114,32]⟩:ByteArray)=strOf [118,97,114,32] from rfl,show (⟨#[59,10]⟩:ByteArray)=strOf [59,10] from rfl,show (⟨#[32,61,32]⟩:ByteArray)=strOf [32,61,32] from rfl,iS];conv=>lhs;rw[←cT nm]
     rw[ag,ag,ag,ag,ag];simp)
    clear aF aL r aV a3 Z cf ah hle l O h0;go_wp2_with(fail);refine(lO z _ aU).mono ?_;rintro e aN ⟨rfl,ar⟩;have br:=ad (a2.trans (Fr.of ar));have G:=ad (bs.ak (Fr.of ar));clear ar a0 ap ak c0 c1;go_wp2;go_roundw
    case rel=>exact⟨k+1,ab,by go_num,by rw[←bt.o],br.o,G.o⟩
    case measure=>exact aB
  ·obtain rfl:gn=k:=ab;have n:=ad (show eW ho (p.globals.take gn)=eW ho p.globals by rw[←bK.1,List.take_length]);rw[n.o] at bi ⊢;clear aF aL;generalize aq:eW ho p.globals=GT at *;go_wp2;clear a0 ap ak n;go_loopw [3,5] (fun sv ba wr=>∃k:Nat,k≤mn∧ba=.int .i64 k∧sv=.string (strOf (GT++eW j4 (p.ae.take k)))∧Ext w wr∧af wr w.heap.size 71 #[.slice GA gn gc,.slice MA mn mc,.slice FA fn fc]) (fun _ ba _=>mn - (intOf ba).toNat)
   case atStart=>exact⟨0,ab,rfl,by simp[eW],a2.o,bs.o⟩
   case round=>
    obtain⟨k,aj,rfl,rfl,aF,aL⟩:=hrel;clear a2 bs bi;obtain⟨a2,bs⟩:=aM aF aL;obtain⟨a0,ap,ak⟩:=aL.two;have bi:(strOf (GT++eW j4 (p.ae.take k))).size≤262144:=by
     rw[aG,JS];have ae:=kH j4 p.ae k;have aC:=F.o;omega
    by_cases dc:k<mn
    ·obtain⟨b,o,m,cs,rfl,O,r,aV,a3,Z⟩:=(dv.on (Fr.ext aF)).gN sd dc;obtain rfl:=eR.1 aV;have c0:=Z 0 _ rfl;have c1:=Z 1 _ rfl;have c2:=Z 2 _ rfl;simp only[J0] at c0;have aW:b<wr.heap.size:=O;obtain⟨nm,re,z⟩:=m;have aU:=b4.gm _ (JT r);have cf:=mQ (f:=j4) r;have ah:=CY ⟨nm,re,z⟩;have hle:=kH j4 p.ae (k+1);have l:GT.length+(eW j4 (p.ae.take (k+1))).length≤262144:=by have:=F.o;omega
     rw[cf,ah] at l;simp only[JS] at l;have v:nm.size≤262144:=by rw[ou];omega
     simp only at aU ah c0 c1 c2 v;have s:0<z→(strOf (lp z)).size≤262144:=fun h0=>by
      rw[if_pos h0] at l;simp only[JS] at l;rw[aG,iS];omega
     clear a3 Z hle l r aV O aF aL;have K:=ad cf;go_upto_region 13 with(fail);exact Ao
    ·obtain rfl:mn=k:=ab;have n:=ad (show eW j4 (p.ae.take mn)=eW j4 p.ae by rw[←bK.2.1,List.take_length]);rw[n.o] at bi ⊢;clear aF aL;generalize av:eW j4 p.ae=an at *;go_wp2;clear a0 ap ak n;go_loopw [3,7] (fun sv ba wr=>∃k:Nat,k≤fn∧ba=.int .i64 k∧sv=.string (strOf (GT++(an++eW j3 (p.funcs.take k))))∧Ext w wr∧af wr w.heap.size 71 #[.slice GA gn gc,.slice MA mn mc,.slice FA fn fc]) (fun _ ba _=>fn - (intOf ba).toNat)
     case atStart=>exact⟨0,ab,rfl,by simp[eW],a2.o,bs.o⟩
     case round=>
      obtain⟨k,aj,rfl,rfl,aF,aL⟩:=hrel;clear a2 bs bi;obtain⟨a2,bs⟩:=aM aF aL;obtain⟨a0,ap,ak⟩:=aL.two;have bi:(strOf (GT++(an++eW j3 (p.funcs.take k)))).size≤262144:=by
       rw[aG,JS,JS];have ae:=kH j3 p.funcs k;have aC:=F.o;omega
      by_cases bC:k<fn
      ·obtain⟨b,o,f,cs,rfl,O,r,aV,a3,Z⟩:=(bX.on (Fr.ext aF)).gN pg bC;obtain⟨PA,pn,pc,f0,bn,eL,rfl,ch,bv⟩:=kj aV;have c0:=Z 0 _ rfl;have c1:=Z 1 _ rfl;have c2:=Z 2 _ rfl;simp only[J0] at c0;have aW:b<wr.heap.size:=O;have aU:=b4.src _ (JT r);have cf:=mQ (f:=j3) r;have ah:=CC f;have hle:=kH j3 p.funcs (k+1);have l:GT.length+(an.length+(eW j3 (p.funcs.take (k+1))).length)≤262144:=by have:=F.o;omega
       rw[cf,ah] at l;simp only[JS] at l;have v:f.name.size≤262144:=by rw[ou];omega
       have bO:(gT f.params).length≤262144:=ab;have be:(cq 1 f.body).length≤262144:=ab;have bb:f.params.length=pn:=by rw[←ch.1,JU]
       have gH:pn≤1000:=ab;obtain⟨a4,H,U⟩:=ez bO be bb;have X:=ai (x2 f.body aU.1) aU.2.1;have az:(strOf (cq 1 f.body)).size≤262144:=by rw[aG];exact be
       have i:=ai cf ah;clear a3 Z hle l r aV O aF aL cf ah aU bO be bb;go_upto_region 23 with(fail);exact zv
      ·obtain rfl:fn=k:=ab;have n:=ad (show eW j3 (p.funcs.take fn)=eW j3 p.funcs by rw[←bK.2.2,List.take_length]);rw[n.o];clear aF aL;go_wp2;go_ret;exact⟨ret_str (by rw[←aq,←av]),a2.o⟩
 ):p:=h
end By
open By in
theorem tN(p:bB)(hp:wE p)(GA:Kr)(gn gc:Nat)(MA:Kr)(mn mc:Nat)(FA:Kr)(fn fc:Nat)(w:World)(h:g1 w (au w) p GA gn MA mn FA fn) :
  Calls prog 114 #[.agg #[.slice GA gn gc,.slice MA mn mc,.slice FA fn fc]] w fun e ac=>e=.returned (.string (strOf (aR (fk p))))∧Ext w ac:=by
 exact uT
theorem El{l:List UInt8}(h:(dX l).2.2=0):l.length≤262144:=by
 unfold dX at h;split at h
 ·simp at h
 ·omega
theorem oE.print(hp:oE p):wE p where
 inits:=fun g aJ=>by have:=hp.inits g aJ;omega
 gm:=fun m hm=>by have:=hp.gm m hm;omega
 src:=fun f aD=>⟨iZ _ 4 (j6 (hp.env aD) f.body 4 _ _ (hp.vars aD) (hp.funcs f aD).body),by
  have ae:f.body.num≤(p.funcs.map fun f=>f.body.num).sum:=ja (fun f:az=>f.body.num) aD;have:=hp.jm;omega,by have:=(hp.funcs f aD).jm;omega⟩
 len:=El (tM hp)
 jm:=by
  have:=hp.pK;have:=hp.x9;have:=hp.Ep;omega
theorem EZ(w:World)(s:ByteArray)(cap:Nat)(hc:s.size≤cap)(hs:s.size≤1000000)(e:TypeId)(sp:Nat×Nat):eU (w.alloc (.cells (bytesRow s cap) e sp)) w.heap.size 0 cap s:=by
 refine⟨fun i al=>?_,by simp,hc,hs⟩;rw[J8,cell_of_row _ _ i _ e sp (heap_alloc_new w _)];unfold bytesRow;rw[Array.getElem?_append_left (by simpa using al)];simp only[Array.getElem?_map];rw[Array.getElem?_eq_getElem (by simpa using al)];rfl
namespace BF
theorem zw{p:Prop}(h:p:=by
 go_wp2_with(fail);refine(gP f.name _ U).mono ?_;rintro e aN ⟨rfl,ar⟩;rw[i.o];have J:=ad (br.trans ar);have bY:=ad (G.ak ar);have bt:=ad (bL.ak ar);have l:=ad ar;clear ar a0 ap ak;obtain⟨a0,ap,ak⟩:=bt.two;go_wp2_with(fail);refine((show E8 f.body from tK f.body) 4 0 _ _ _ _ X.o (aH fy.o) ab (dm.on (Fr.ext l.o))).mono ?_;rintro e aO ⟨rfl,bI⟩;have bl:=ad (J.trans bI);have bz:=ad (bY.ak bI);have s:=ad (bt.ak bI);have ag:=ad (l.trans bI);clear bI a0 ap ak;obtain⟨a0,ap,ak⟩:=s.two;go_wp2;clear a0 ap ak;go_loopw [8] (fun a1 bV=>∃j:Nat,j≤pn∧a1=.int .i64 j∧Ext w bV∧af bV w.heap.size 71 #[.slice GA gn gc,.slice MA mn mc,.slice (some ⟨b,o,none⟩) fn fc]∧Ext V bV) (fun a1 _=>pn - (intOf a1).toNat)
 case atStart=>exact⟨0,ab,rfl,bl.o,bz.o,ag.o⟩
 case round=>
  obtain⟨j,bc,rfl,aF,aL,hV⟩:=hrel;obtain⟨L,I,R⟩:=ez aF aL hV;obtain⟨a0,ap,ak⟩:=(bL.ak hV).two;by_cases Y:j<pn
  ·obtain⟨pb,gL,q,cs,rfl,eI,T,ax,a3,Z⟩:=(gG.on (Fr.ext hV)).gN tq Y;obtain rfl:=qZ.1 ax;have c0:=Z 0 _ rfl;have c1:=Z 1 _ rfl;simp only[J0] at c0;have al:pb<_:=eI;have Q:=v.params _ (JT T);obtain⟨ca,qm⟩:=q;simp only at Q c0 c1;have ae:=ad (show jr ca=true from Q);have an:=hP Q;clear aF aL hV a3 Z T ax eI Q;go_wp2_with(fail);refine(gP ca _ an).mono ?_;rintro e ci ⟨rfl,dj⟩;rw[ae.o];have F:=ad (L.trans dj);have N:=ad (I.ak dj);have ai:=ad (R.trans dj);clear dj a0 ap ak c0 c1 al;go_wp2;go_roundw
   case rel=>exact⟨j+1,ab,by go_num,F.o,N.o,ai.o⟩
   case measure=>exact aB
  ·obtain rfl:pn=j:=ab;clear aF aL hV Y;go_wp2;go_roundw
   case rel=>exact⟨k+1,ab,by go_num,L.o,I.o⟩
   case measure=>exact aB
 ):p:=h
theorem Ap{p:Prop}(h:p:=by
 have bL:=ad hC;clear hV a0 ap ak c0 c1 c2 aW a2 bs t;obtain⟨a0,ap,ak⟩:=hC.two;clear hC;go_wp2_with(fail);refine(gP nm _ U).mono ?_;rintro e aN ⟨rfl,ar⟩;rw[i.o];have J:=ad (br.trans ar);have bY:=ad (G.ak ar);have bf:=bL.ak ar;clear ar a0 ap ak;obtain⟨a0,ap,ak⟩:=bf.two;clear bf
 cases re with
 | false=>
  exact Ft
 | true=>
  obtain rfl:z=0:=aU.2.2 rfl;exact Ft
 ):p:=h
theorem jF{p:Prop}(h:p:=by
 have aL:af W w.heap.size 71 #[.slice GA gn gc,.slice MA mn mc,.slice FA fn fc]:=bg▸Ko;clear bg;obtain⟨a2,bs⟩:=aM aF aL;obtain⟨a0,ap,ak⟩:=aL.two;clear aF aL;go_wp2;clear a0 ap ak;go_loopw [3] (fun ba wr=>∃k:Nat,k≤gn∧ba=.int .i64 k∧Ext w wr∧af wr w.heap.size 71 #[.slice GA gn gc,.slice MA mn mc,.slice FA fn fc]) (fun ba _=>gn - (intOf ba).toNat)
 case atStart=>exact⟨0,ab,rfl,a2.o,bs.o⟩
 case round=>
  obtain⟨k,aj,rfl,aF,aL⟩:=hrel;clear a2 bs;obtain⟨a2,bs⟩:=aM aF aL;obtain⟨a0,ap,ak⟩:=aL.two;by_cases aw:k<gn
  ·obtain⟨b,o,g,cs,rfl,O,r,aV,a3,Z⟩:=(bS.on (Fr.ext aF)).gN oi aw;obtain rfl:=mb.1 aV;have c0:=Z 0 _ rfl;have c1:=Z 1 _ rfl;simp only[J0] at c0;have aW:b<_:=O;obtain⟨nm,z⟩:=g;have aU:=b4.inits _ (JT r);have aa:bp nm.data.toList=true:=H.o nm (by simp only[a5,ft,JZ,Ke];exact .inl (.inl ⟨_,JT r,rfl⟩));have i:=ad (show jr nm=true from aa);have U:=hP aa;simp only at aU c0 c1;have bP:(z == -9223372036854775808)=false:=by simp;omega
   clear aF aL r aV a3 Z O aa;go_wp2_with(fail);refine(gP nm _ U).mono ?_;rintro e aN ⟨rfl,ar⟩;rw[i.o];have br:=ad (a2.trans ar);have G:=ad (bs.ak ar);have f1:=(ar.cell (j:=o+k*2+1) aW (fun h=>h)).trans c1;have bF:b<aN.heap.size:=JR aW ar.size;clear ar a0 ap ak c0 c1 aW;obtain⟨a0,ap,ak⟩:=G.two;go_wp2;go_roundw
   case rel=>exact⟨k+1,ab,by go_num,br.o,G.o⟩
   case measure=>exact aB
  ·obtain rfl:gn=k:=ab;clear aF aL;go_wp2;clear a0 ap ak;go_loopw [4] (fun ba wr=>∃k:Nat,k≤mn∧ba=.int .i64 k∧Ext w wr∧af wr w.heap.size 71 #[.slice GA gn gc,.slice MA mn mc,.slice FA fn fc]) (fun ba _=>mn - (intOf ba).toNat)
   case atStart=>exact⟨0,ab,rfl,a2.o,bs.o⟩
   case round=>
    obtain⟨k,aj,rfl,aF,aL⟩:=hrel;clear a2 bs;obtain⟨a2,bs⟩:=aM aF aL;obtain⟨a0,ap,ak⟩:=aL.two;by_cases dc:k<mn
    ·obtain⟨b,o,m,cs,rfl,O,r,aV,a3,Z⟩:=(dv.on (Fr.ext aF)).gN sd dc;obtain rfl:=eR.1 aV;have c0:=Z 0 _ rfl;have c1:=Z 1 _ rfl;have c2:=Z 2 _ rfl;simp only[J0] at c0;have aW:b<_:=O;obtain⟨nm,re,z⟩:=m;have aU:=b4.gm _ (JT r);have aa:bp nm.data.toList=true:=H.o nm (by simp only[a5,JZ,Ke];exact .inl (.inr ⟨_,JT r,rfl⟩));have i:=ad (show jr nm=true from aa);have U:=hP aa;simp only at aU c0 c1 c2;have q1:decide (z<0)=false:=by simp;omega
     have cB:decide (z > 64)=false:=by simp;omega
     clear a3 Z r aV O aF aL aa;go_upto_region 12 with(fail);exact Ao
    ·obtain rfl:mn=k:=ab;clear aF aL;go_wp2;clear a0 ap ak;go_loopw [6] (fun ba wr=>∃k:Nat,k≤fn∧ba=.int .i64 k∧Ext w wr∧af wr w.heap.size 71 #[.slice GA gn gc,.slice MA mn mc,.slice FA fn fc]) (fun ba _=>fn - (intOf ba).toNat)
     case atStart=>exact⟨0,ab,rfl,a2.o,bs.o⟩
     case round=>
      obtain⟨k,aj,rfl,aF,aL⟩:=hrel;clear a2 bs;obtain⟨a2,bs⟩:=aM aF aL;obtain⟨a0,ap,ak⟩:=aL.two;by_cases bC:k<fn
      ·obtain⟨b,o,f,cs,rfl,O,r,aV,a3,Z⟩:=(bX.on (Fr.ext aF)).gN pg bC;obtain⟨PA,pn,pc,f0,bn,eL,rfl,ch,bv⟩:=kj aV;have c0:=Z 0 _ rfl;have c1:=Z 1 _ rfl;have c2:=Z 2 _ rfl;simp only[J0] at c0;have aW:b<_:=O;have bh:=JT r;have aa:bp f.name.data.toList=true:=H.o f.name (by simp only[a5,JZ,Ke];exact .inr ⟨_,bh,rfl⟩);have i:=ad (show jr f.name=true from aa);have U:=hP aa;have bb:f.params.length=pn:=by rw[←ch.1,JU]
       have gH:pn≤2:=by have:=(b4.funcs f bh).jm;omega
       have v:=ad (b4.funcs f bh);have X:=ad (j6 (b4.env bh) f.body 4 _ _ (b4.vars bh) (b4.funcs f bh).body);have fy:=ad (b4.print.src f bh).2.1;clear a3 Z r aV O aF aL aa bb bh;go_upto_region 18 with(fail);exact zv
      ·obtain rfl:fn=k:=ab;have u:=ad (show g1 _ (au _) p GA gn MA mn FA fn from ⟨bS.on (Fr.ext aF),dv.on (Fr.ext aF),bX.on (Fr.ext aF)⟩);clear aF aL;go_wp2_with(fail);refine(tN p b4.print GA gn gc MA mn mc FA fn fc _ u.o).mono ?_;rintro e cx ⟨rfl,bq⟩;have F:=ad (a2.trans bq);have kc:=run_bytes_of_string (P:=prog) cx 9 85 5 (strOf (aR (fk p))) Tryz.underlying9 Tryz.underlying85 Tryz.underlying5;have hlen:(strOf (aR (fk p))).size≤262144:=by rw[aG];exact b4.print.len
       have y:=ad (tM b4.o);have am:(strOf (aR (fk p))).data.toList=aR (fk p):=by simp[strOf]
       generalize hS:strOf (aR (fk p))=S at *;have bx:=grownCap_ge cx S.size 0 5;generalize K:grownCap cx S.size 0 5=cap at *;clear bq a0 ap ak K;go_wp2_with(fail);generalize hV:World.alloc _ _=V;have hT:eU V cx.heap.size 0 cap S:=by
        rw[←hV];exact EZ cx S cap bx ab _ _
       have t:Ext cx V:=hV▸Kn.alloc _;have aI:=ad (F.trans t);clear hV t kc;refine(xd S cx.heap.size 0 cap V.drew (hT.on Kn.drew) hlen).mono ?_;rintro e cp ⟨A,n,c,rfl,bJ,bT,ah⟩;have M:=ad (aI.drew.trans (Fr.of ah));rw[show (dX S.data.toList).2.2=0 by rw[am];exact y.o];clear bT ah hT;go_wp2;go_ret;exact⟨rfl,M.o⟩
 ):p:=h
theorem rZ{p:Prop}(h:p:=by
 obtain⟨b4,bS,dv,bX,H⟩:=B7 hp aJ hm aD hp.names;clear h aJ hm aD di lm lf hp;go_enter func80,ntmps80;exact jE
 ):p:=h
theorem uU{p:Prop}(h:p:=by
 exact rY
 ):p:=h
end BF
open BF in
theorem E1(p:bB)(hp:oE p)(GA:Kr)(gn gc:Nat)(MA:Kr)(mn mc:Nat)(FA:Kr)(fn fc:Nat)(w:World)(h:g1 w (au w) p GA gn MA mn FA fn) :
  Calls prog 80 #[.agg #[.slice GA gn gc,.slice MA mn mc,.slice FA fn fc]] w fun e ac=>e=.returned (.bool true)∧Ext w ac:=by
 exact uT
end Go.Proofs.YtbkhhfajcgkpgaaGreat
