/- Part 8 of the proof (MachP MachQ MachR FolP WaitP), without conditions of its own. -/
import Derived.Test.YtjhgbdckgkppnaaGreatQ03
import Derived.Test.YtjhgbdckgkppnaaGreatQ07
namespace Go.Proofs.YtjhgbdckgkppnaaGreat
open Go.RowKit Go.Proofs.Tryz
set_option maxRecDepth 1000000
set_option maxHeartbeats 25600000
set_option linter.unusedVariables false
variable{e k o p:Int}{r:Int×Int}{is:List Int}{X:List bF}{T:List ct}{i:Nat}{Q:an}
def ei(s:an)(t:Int):Option aq:=if s.fault≠0∨t<0 then none else (s.threads[t.toNat]?).bind List.getLast?
def dG(u:aF)(s:an)(t:Int):Option aC:=(ei s t).bind fun f=>(u.procs[f.proc.toNat]?).bind fun p=>p.code[f.pc.toNat]?
def cC(u:aF)(s:an)(f:aq)(p:bK):Int×Int:=
 match p.at_ with
 | none=>(0,0)
 | some e=>idx (((u.af[p.index.toNat]?).map bF.size).getD 0) (ev s.globals f.ints e)
def bD(u:aF)(s:an)(f:aq)(p:bK):Int×Int:=
 if p.param then (f.av.getD p.index.toNat 0,0)
 else if (cC u s f p).2≠0 then (0,(cC u s f p).2) else (fP u.af p.index+(cC u s f p).1,0)
def Ak(u:aF)(s:an)(t:Int)(p:bK):Int×Int:=match ei s t with
 | none=>(0,0)
 | some f=>bD u s f p
def dt(g l:List Int):List VE→List Int×Int
 | []=>([],0)
 | e::es=>if (ev g l e).2≠0 then ([],(ev g l e).2) else if (dt g l es).2≠0 then ([],(dt g l es).2) else ((ev g l e).1::(dt g l es).1,0)
def cf(u:aF)(s:an)(f:aq):List bK→List Int×Int
 | []=>([],0)
 | p::ps=>if (bD u s f p).2≠0 then ([],(bD u s f p).2) else if (cf u s f ps).2≠0 then ([],(cf u s f ps).2) else ((bD u s f p).1::(cf u s f ps).1,0)
def gd(u:aF)(k:Int):Nat:=(((u.procs[k.toNat]?).map c5.locals).getD 0).toNat
def c9(u:aF)(k:Int)(is ls:List Int):aq:=⟨k,0,is++List.replicate (gd u k - is.length) 0,ls⟩
def iE(u:aF):an:=⟨u.globals,List.replicate (own u.af).length ⟨0,0⟩,[[c9 u u.main [] []]],0⟩
def bk(s:an)(t:Int)(f:aq):an:={s with threads:=s.threads.modify t.toNat fun fs=>fs.dropLast++[f]}
def oz(s:an)(t:Int)(f:aq):an:={s with threads:=s.threads.modify t.toNat fun fs=>fs++[f]}
def rD(s:an)(t:Int):an:={s with threads:=s.threads.modify t.toNat List.dropLast}
def next(f:aq):aq:={f with pc:=f.pc+1}
def bP(a b:Int)(many:Bool):Int:=if a≠0 then a else if b≠0 then b else if many then 4 else 0
def cp(u:aF)(s:an)(t:Int)(f:aq)(x:aC):an×Bool:=
 if x.op=1∨x.op=6 then
  let r:=ev s.globals f.ints (x.expr.getD (.num 0))
  if r.2≠0 then ({s with fault:=r.2},true)
  else if x.op=6 then (bk s t (if r.1=0 then {f with pc:=x.target} else next f),true)
  else if x.da then ({bk s t (next f) with globals:=s.globals.set x.target.toNat r.1},true)
  else (bk s t {next f with ints:=f.ints.set x.target.toNat r.1},true)
 else if x.op=2∨x.op=3 then
  let a:=dt s.globals f.ints x.ints
  let b:=cf u s f x.places
  let e:=bP a.2 b.2 (decide (x.op=3∧32≤s.threads.length))
  if e≠0 then ({s with fault:=e},true)
  else if x.op=3 then ({bk s t (next f) with threads:=(bk s t (next f)).threads++[[c9 u x.target a.1 b.1]]},true)
  else (oz (bk s t (next f)) t (c9 u x.target a.1 b.1),true)
 else if x.op=4∨x.op=5 then
  let r:=bD u s f x.place
  if r.2≠0 then ({s with fault:=r.2},true)
  else if x.op=4 then (if free u.af s.table r.1 t then ({bk s t (next f) with table:=gO u.af s.table r.1 t},true) else (s,false))
  else (if heldBy u.af s.table r.1 t then ({bk s t (next f) with table:=dD u.af s.table r.1 t},true) else ({s with fault:=3},true))
 else if x.op=7 then (bk s t {f with pc:=x.target},true)
 else (rD s t,true)
def ew(u:aF)(s:an)(t:Int):an×Bool:=match ei s t,dG u s t with
 | some f,some x=>cp u s t f x
 | _,_=>(s,false)
theorem m5:∀x:VE,x.lit→x.fit
 | .num n,h=>by
  have F:0≤n∧n≤9223372036854775807:=h;show Fits n
  unfold Fits;omega
 | .ga _,_=>trivial
 | .loc _,_=>trivial
 | .hR _,_=>trivial
 | .un _ x,h=>m5 x h
 | .bin _ x y,h=>⟨m5 x h.1,m5 y h.2⟩
structure bW(u:aF)(f:aq):Prop where
 proc:0≤f.proc
 pc:0≤f.pc
 ex:∃p,u.procs[f.proc.toNat]?=some p∧f.pc<p.code.length∧(f.ints.length:Int)=p.locals∧(f.av.length:Int)=p.av
 fits:∀v∈f.ints,Fits v
 av:∀k∈f.av,0≤k∧k<elems u.af
structure i3(u:aF)(n D:Nat)(i:Nat)(h:ct):Prop where
 owner:0≤h.owner∧h.owner≤n
 depth:0≤h.depth∧h.depth≤D
 AD:h.owner=0↔h.depth=0
 re:1<h.depth→tw u.af (bG u.af i)=true
structure a1(u:aF)(D:Nat)(s:an):Prop where
 Bs:1≤s.threads.length∧s.threads.length≤32
 eC:∀t∈s.threads,t.length≤D+1∧∀f∈t,bW u f
 da:s.globals.length=u.globals.length
 lg:∀v∈s.globals,Fits v
 table:s.table.length=(own u.af).length
 holds:∀i h,s.table[i]?=some h→i3 u s.threads.length D i h
 fault:0≤s.fault∧s.fault≤4
theorem i3.mono{u:aF}{n L D w:Nat}{h:ct}(aj:i3 u n D i h)(hn:n≤L)(hD:D≤w):i3 u L w i h:=
 ⟨⟨aj.owner.1,by have:=aj.owner.2;omega⟩,⟨aj.depth.1,by have:=aj.depth.2;omega⟩,aj.AD,aj.re⟩
section
variable {u:aF} {D:Nat} {s:an} {t:Int} {f:aq}
theorem iK(h:ei s t=some f):s.fault=0∧0≤t∧∃fs,s.threads[t.toNat]?=some (fs++[f]):=by
 unfold ei at h;split at h
 ·cases h
 ·rename_i hc;refine⟨ad,ad,?_⟩
  cases bu:s.threads[t.toNat]? with
  | none=>rw[bu] at h;cases h
  | some l=>
   rw[bu] at h;have F:l.getLast?=some f:=h;obtain⟨cd,rfl⟩:=List.getLast?_eq_some_iff.1 F;exact⟨cd,rfl⟩
theorem a1.top(hS:a1 u D s)(h:ei s t=some f):bW u f∧0≤t∧t<s.threads.length:=by
 obtain⟨_,h0,fs,bu⟩:=iK h;have ao:=(List.getElem?_eq_some_iff.1 bu).1;exact⟨(hS.eC _ (Ge bu)).2 f (by simp),h0,ad⟩
theorem n5(hU:cU u)(hF:bW u f):∃p x,u.procs[f.proc.toNat]?=some p∧oy (bs u) p∧p.code[f.pc.toNat]?=some x∧∃len:Nat,p.code.length=len+1∧gS (bs u) p.locals p.av len x∧(x.op≠8→f.pc+1<p.code.length):=by
 obtain⟨p,hp,cX,_,_⟩:=hF.ex;have U:=hU.procs p (Ge hp);obtain⟨c,hc,_,ap⟩:=U.code;have h0:=hF.pc;have hlen:p.code.length=c.length+1:=by rw[hc];simp
 have hx:p.code[f.pc.toNat]?=some (p.code[f.pc.toNat]'ad):=List.getElem?_eq_getElem _;refine⟨p,_,hp,U,hx,c.length,hlen,?_⟩;by_cases ao:f.pc.toNat<c.length
 ·have he:p.code[f.pc.toNat]'ad=c[f.pc.toNat]:=by
   simp only[hc];exact List.getElem_append_left ao
  rw[he];exact⟨ap _ (List.getElem_mem _),fun _=>ad⟩
 ·have he:p.code[f.pc.toNat]'ad=lX:=by
   simp only[hc];rw[List.getElem_append_right ad];simp
  rw[he];exact⟨.inr (.inr (.inr (.inr (.inr ⟨rfl,rfl⟩)))),fun h=>absurd rfl h⟩
theorem uF(hS:a1 u D s)(hF:bW u f){p:c5}(hp:u.procs[f.proc.toNat]?=some p){e:VE}(he:fo (bs u) p.locals e):
  e.ok s.globals.length f.ints.length∧vZ s.globals f.ints e∧Fits (ev s.globals f.ints e).1:=by
 obtain⟨q,bu,_,hl,_⟩:=hF.ex;rw[hp] at bu;injection bu with bu;subst bu;have ac:e.ok s.globals.length f.ints.length:=by
  rw[hS.da];have:=he.1;rw[show p.locals.toNat=f.ints.length by omega] at this;exact this
 have o:=m5 e he.2;exact⟨ac,⟨hS.lg,hF.fits,o⟩,uE hS.lg hF.fits e o⟩
end
theorem cU.BB{u:aF}(h:cU u):oQ u.af:=⟨by have:=h.ti;omega,h.eI⟩
theorem z1(op a b:Int):(arith op a b).2=0∨(arith op a b).2=1:=by
 unfold arith
 repeat' split
 all_goals simp
theorem nW(g l:List Int):∀x:VE,(ev g l x).2=0∨(ev g l x).2=1
 | .num _=>.inl rfl
 | .ga _=>.inl rfl
 | .loc _=>.inl rfl
 | .hR _=>.inl rfl
 | .un op x=>by
  have aa:=nW g l x;unfold ev
  repeat' split
  all_goals first|exact aa|exact .inl rfl
 | .bin op x y=>by
  have i:=nW g l x;have c:=nW g l y;unfold ev
  repeat' split
  all_goals first|exact i|exact c|exact .inl rfl|exact z1 _ _ _
theorem B7(m:Int)(r:Int×Int)(h:r.2=0∨r.2=1):(idx m r).2=0∨(idx m r).2=1∨(idx m r).2=2:=by
 unfold idx
 repeat' split
 all_goals simp
 all_goals omega
theorem Ea(m:Int)(r:Int×Int)(h:(idx m r).2=0):0≤(idx m r).1∧(idx m r).1<m:=by
 unfold idx at h ⊢;split at h
 ·rename_i ac;exact absurd h ac
 ·split at h
  ·simp at h
  ·rename_i ac J;rw[if_neg ac,if_neg J];simp only[];omega
section
variable {u:aF} {D w:Nat} {s:an} {t:Int} {f cz:aq}
theorem jw(hU:cU u)(hF:bW u f){p:bK}{nl nk:Int}(ap:nk≤f.av.length)(hp:cT (bs u) nl nk p):
  ((bD u s f p).2=0∨(bD u s f p).2=1∨(bD u s f p).2=2)∧((bD u s f p).2=0→0≤(bD u s f p).1∧(bD u s f p).1<elems u.af):=by
 unfold bD;rcases hp with⟨ac,J,aS,bo⟩|⟨ac,m,J,aS,bo,cr⟩
 ·rw[if_pos ac];refine⟨.inl rfl,fun _=>?_⟩;have ao:p.index.toNat<f.av.length:=ad;have:f.av.getD p.index.toNat 0=f.av[p.index.toNat]:=by rw[List.getD_eq_getElem?_getD,List.getElem?_eq_getElem ao];rfl
  simp only[this];exact hF.av _ (List.getElem_mem _)
 ·rw[if_neg (by simp[ac])];have hm:u.af[p.index.toNat]?=some m:=aS;have bN:=hU.eI m (Ge hm);obtain⟨i,aJ⟩:=Gg J;rw[aJ,Gy] at hm;have ao:=(List.getElem?_eq_some_iff.1 hm).1;have O:fP u.af p.index=elems (u.af.take i):=by rw[aJ];exact o8 ao
  have h0:=(hU.BB).mW i;have K:elems (u.af.take i)+m.num≤elems u.af:=by
   have:=oY u.af (i+1);rw[List.take_add_one,hm] at this;simp only[Option.toList_some,hk] at this;exact this
  have z:=m.qs;have a:((cC u s f p).2=0∨(cC u s f p).2=1∨(cC u s f p).2=2)∧((cC u s f p).2=0→0≤(cC u s f p).1∧(cC u s f p).1<m.num):=by
   unfold cC;by_cases bv:0<m.size
   ·obtain⟨e,he,_⟩:=bo bv;have H:((u.af[p.index.toNat]?).map bF.size).getD 0=m.size:=by rw[aJ,Gy,hm];rfl
    rw[he];simp only[H];refine⟨B7 _ _ (nW _ _ _),fun h=>?_⟩;have:=Ea _ _ h;unfold bF.num;omega
   ·rw[cr bv];refine⟨.inl rfl,fun _=>⟨Int.le_refl _,?_⟩⟩;simp only[];omega
  split
  ·rename_i a2;exact⟨a.1,fun h=>absurd h a2⟩
  ·rename_i heq;refine⟨.inl rfl,fun _=>?_⟩;have:=a.2 ad;simp only[O];omega
theorem od{α:Type}{l:List α}{g:α→α}{x:α}(h:x∈l.modify i g):x∈l∨∃y,l[i]?=some y∧x=g y:=by
 obtain⟨k,ap⟩:=List.getElem?_of_mem h;rw[List.getElem?_modify] at ap;split at ap
 ·rename_i heq;subst heq
  cases a3:l[i]? with
  | none=>rw[a3] at ap;cases ap
  | some y=>
   rw[a3] at ap;exact .inr ⟨y,rfl,by simpa using ap.symm⟩
 ·exact .inl (Ge (by simpa using ap))
theorem a1.mono(h:a1 u D s)(hD:D≤w):a1 u w s:=
 ⟨h.Bs,fun t ht=>⟨by have:=(h.eC t ht).1;omega,(h.eC t ht).2⟩,h.da,h.lg,h.table,fun i x hx=>(h.holds i x hx).mono (Gb _) hD,h.fault⟩
theorem a1.nX(h:a1 u D s)(he:0≤e∧e≤4):a1 u D {s with fault:=e}:=
 ⟨h.Bs,h.eC,h.da,h.lg,h.table,h.holds,he⟩
theorem a1.threads(h:a1 u D s)(g:List aq→List aq)(aM:∀fs,s.threads[t.toNat]?=some fs→(g fs).length≤w+1∧∀f∈g fs,bW u f)(hD:D≤w) :
  a1 u w {s with threads:=s.threads.modify t.toNat g}:=by
 have hl:(s.threads.modify t.toNat g).length=s.threads.length:=List.length_modify ..;refine⟨by show 1≤(s.threads.modify t.toNat g).length∧_≤32;rw[hl];exact h.Bs,fun x hx=>?_,h.da,h.lg,h.table,fun i x hx=>?_,h.fault⟩
 ·rcases od hx with hx|⟨y,a3,rfl⟩
  ·exact⟨by have:=(h.eC x hx).1;omega,(h.eC x hx).2⟩
  ·exact aM y a3
 ·show i3 u (s.threads.modify t.toNat g).length w i x
  rw[hl];exact(h.holds i x hx).mono (Gb _) hD
theorem f0(h:a1 u D s)(ht:ei s t=some f)(aw:bW u cz):a1 u D (bk s t cz):=by
 obtain⟨_,_,fs,bu⟩:=iK ht;refine h.threads _ (fun gs bZ=>?_) (Gb _);rw[bu] at bZ;injection bZ with bZ;subst bZ;have:=h.eC _ (Ge bu);simp only[List.dropLast_concat,Gd,Gm] at this ⊢;refine⟨this.1,fun x hx=>?_⟩;rcases Gk.1 hx with hx|hx
 ·exact this.2 x (by simp[hx])
 ·have:x=cz:=by simpa using hx
  subst this;exact aw
theorem Ck(h:a1 u D s):a1 u D (rD s t):=by
 refine h.threads _ (fun gs bZ=>?_) (Gb _);have:=h.eC _ (Ge bZ);refine⟨by rw[List.length_dropLast];omega,fun x hx=>this.2 x (List.mem_of_mem_take (by rw[List.dropLast_eq_take] at hx;exact hx))⟩
theorem A9(h:a1 u D s)(aw:bW u cz):a1 u (D+1) (oz s t cz):=by
 refine h.threads _ (fun gs bZ=>?_) ad;have:=h.eC _ (Ge bZ);refine⟨by simp;omega,fun x hx=>?_⟩;rcases Gk.1 hx with hx|hx
 ·exact this.2 x hx
 ·have:x=cz:=by simpa using hx
  subst this;exact aw
theorem nZ(hF:bW u f){p:c5}(hp:u.procs[f.proc.toNat]?=some p)(h0:0≤k)(ac:k<p.code.length):bW u {f with pc:=k}:=by
 obtain⟨q,bu,_,J,aS⟩:=hF.ex;rw[hp] at bu;injection bu with bu;subst bu;exact⟨hF.proc,h0,⟨_,hp,ac,J,aS⟩,hF.fits,hF.av⟩
theorem sW(hF:bW u f)(hl:is.length=f.ints.length)(aw:∀v∈is,Fits v):bW u {f with ints:=is}:=by
 obtain⟨q,bu,ac,J,aS⟩:=hF.ex;exact⟨hF.proc,hF.pc,⟨q,bu,ac,by show (is.length:Int)=_;rw[hl];exact J,aS⟩,aw,hF.av⟩
theorem n6(hS:a1 u D s)(hF:bW u f){p:c5}(hp:u.procs[f.proc.toNat]?=some p):∀(es:List VE),(∀e∈es,fo (bs u) p.locals e)→
  ((dt s.globals f.ints es).2=0∨(dt s.globals f.ints es).2=1)∧((dt s.globals f.ints es).2=0→(dt s.globals f.ints es).1.length=es.length)∧∀v∈(dt s.globals f.ints es).1,Fits v
 | [],_=>⟨.inl rfl,fun _=>rfl,fun v h=>by simp[dt] at h⟩
 | e::es,h=>by
  obtain⟨ac,J,aS⟩:=n6 hS hF hp es fun x hx=>h x (by simp[hx]);have he:=uF hS hF hp (h e (by simp));have b:=nW s.globals f.ints e;unfold dt;split
  ·rename_i a2;exact⟨b,fun h=>absurd h a2,fun v bC=>by simp at bC⟩
  ·split
   ·rename_i a2;exact⟨ac,fun h=>absurd h a2,fun v bC=>by simp at bC⟩
   ·rename_i heq;refine⟨.inl rfl,fun _=>by simp[J ad],fun v bC=>?_⟩;rcases Gt.1 bC with rfl|bC
    ·exact he.2.2
    ·exact aS v bC
theorem lZ(hU:cU u)(hF:bW u f){nl nk:Int}(ap:nk≤f.av.length):∀(ps:List bK),(∀p∈ps,cT (bs u) nl nk p)→
  ((cf u s f ps).2=0∨(cf u s f ps).2=1∨(cf u s f ps).2=2)∧((cf u s f ps).2=0→(cf u s f ps).1.length=ps.length)∧∀v∈(cf u s f ps).1,0≤v∧v<elems u.af
 | [],_=>⟨.inl rfl,fun _=>rfl,fun v h=>by simp[cf] at h⟩
 | p::ps,h=>by
  obtain⟨ac,J,aS⟩:=lZ hU hF ap ps fun x hx=>h x (by simp[hx]);have he:=jw (s:=s) hU hF ap (h p (by simp));unfold cf;split
  ·rename_i a2;exact⟨he.1,fun h=>absurd h a2,fun v bC=>by simp at bC⟩
  ·rename_i a;split
   ·rename_i a2;exact⟨ac,fun h=>absurd h a2,fun v bC=>by simp at bC⟩
   ·rename_i heq;refine⟨.inl rfl,fun _=>by simp[J ad],fun v bC=>?_⟩;rcases Gt.1 bC with rfl|bC
    ·exact he.2 ad
    ·exact aS v bC
theorem pr(hU:cU u){ls:List Int}{sg:Int×Int}(h0:0≤k)(hs:(bs u).sig[k.toNat]?=some sg)(aJ:(is.length:Int)=sg.1)(hl:(ls.length:Int)=sg.2)
  (aw:∀v∈is,Fits v) (ap:∀v∈ls,0≤v∧v<elems u.af):bW u (c9 u k is ls):=by
 have a:(u.procs.map fun p=>(p.ints,p.av))[k.toNat]?=some sg:=hs;rw[List.getElem?_map] at a
 cases hp:u.procs[k.toNat]? with
 | none=>rw[hp] at a;cases a
 | some p=>
  rw[hp] at a;injection a with a;subst a;simp only[] at aJ hl;have U:=hU.procs p (Ge hp);obtain⟨c,hc,_⟩:=U.code;have o:gd u k=p.locals.toNat:=by unfold gd;rw[hp];rfl
  have ac:=U.ints;refine⟨h0,Int.le_refl _,⟨p,hp,?_,?_,hl⟩,fun v bC=>?_,ap⟩
  ·show (0:Int)<(p.code.length:Int)
   rw[hc];simp
   try omega
  ·show ((is++List.replicate (gd u k - is.length) 0).length:Int)=p.locals
   rw[o];simp;omega
  ·rcases Gk.1 bC with bC|bC
   ·exact aw v bC
   ·rw[(List.mem_replicate.1 bC).2];exact hb
theorem Cd(hF:bW u f){p:c5}(hp:u.procs[f.proc.toNat]?=some p)(h:f.pc+1<p.code.length):bW u (next f):=
 nZ hF hp (aB hF.pc) h
theorem rM{l:List Int}{v:Int}(h:∀x∈l,Fits x)(bC:Fits v):∀x∈l.set i v,Fits x:=by
 intro x hx;rcases List.mem_or_eq_of_mem_set hx with hx|rfl
 ·exact h x hx
 ·exact bC
theorem uH{k:Nat}(ap:k<T.length):T[k]?=some (i2 T k):=by
 unfold i2;rw[Gy,List.getElem?_eq_getElem ap];rfl
theorem s8(hS:a1 u D s)(h0:0≤e)(ht:0≤t∧t<s.threads.length)(bL:free u.af s.table e t=true):
  ∀i h,(s.table.set e.toNat ⟨t+1,(i2 s.table e).depth+1⟩)[i]?=some h→i3 u s.threads.length (D+1) i h:=by
 intro i h aJ;rw[List.getElem?_set] at aJ;split at aJ
 ·rename_i heq;subst heq;split at aJ
  ·rename_i ao;injection aJ with aJ;subst aJ;have aM:=uH (T:=s.table) ao;rw[show ((e.toNat:Nat):Int)=e by omega] at aM;have bi:=hS.holds _ _ aM;refine⟨⟨by show 0≤t+1;omega,by show t+1≤_;omega⟩,⟨by have:=bi.depth.1;show 0≤_+1;omega,by have:=bi.depth.2;show _+1≤((D+1:Nat):Int);omega⟩,?_,fun h=>?_⟩
   ·have:=bi.depth.1;show t+1=0↔(i2 s.table e).depth+1=0
    omega
   ·have F:1<(i2 s.table e).depth+1:=h;rw[show ((e.toNat:Nat):Int)=e by omega];unfold free at bL;simp only[Gn,Bool.or_eq_true,beq_iff_eq,GK] at bL;rcases bL.2 with J|J
    ·have:=bi.AD.1 J;omega
    ·exact J.2
  ·cases aJ
 ·exact(hS.holds i h aJ).mono (Gb _) ad
theorem qF(hS:a1 u D s)(aj:heldBy u.af s.table e t=true):
  ∀i h,(s.table.set e.toNat (down (i2 s.table e)))[i]?=some h→i3 u s.threads.length D i h:=by
 intro i h aJ;unfold heldBy at aj;simp only[Gn,beq_iff_eq,GK] at aj;rw[List.getElem?_set] at aJ;split at aJ
 ·rename_i heq;subst heq;split at aJ
  ·rename_i ao;injection aJ with aJ;subst aJ;have h0:=(e7.1 aj.1.1).1;have aM:=uH (T:=s.table) ao;rw[show ((e.toNat:Nat):Int)=e by omega] at aM;have bi:=hS.holds _ _ aM;have hd:(i2 s.table e).depth≠0:=fun h=>by have:=bi.AD.2 h;omega
   have:=bi.depth;have I:=bi.owner;unfold down;refine⟨?_,⟨by show 0≤_ - 1;omega,by show _ - 1≤_;omega⟩,?_,fun h=>bi.re (by have F:1<(i2 s.table e).depth - 1:=h;omega)⟩
   ·simp only[];split<;>omega
   ·simp only[];split<;>omega
  ·cases aJ
 ·exact hS.holds i h aJ
theorem mP(a b:Int)(m:Bool)(aV:0≤a∧a≤4)(O:0≤b∧b≤4):0≤bP a b m∧bP a b m≤4:=by
 unfold bP
 repeat' split
 all_goals omega
theorem nL(a b:Int)(m:Bool)(h:bP a b m=0):a=0∧b=0∧m=false:=by
 unfold bP at h;by_cases aV:a=0
 ·by_cases O:b=0
  ·cases m
   ·exact⟨aV,O,rfl⟩
   ·simp[aV,O] at h
  ·simp[aV,O] at h
 ·simp[aV] at h
theorem Bp(hU:cU u)(hS:a1 u D s):a1 u (D+1) (ew u s t).1:=by
 unfold ew
 cases ht:ei s t with
 | none=>exact hS.mono ad
 | some f=>
  obtain⟨hF,cV,cI⟩:=hS.top ht;obtain⟨p,x,hp,U,hx,len,hlen,aJ,ce⟩:=n5 hU hF;have c:dG u s t=some x:=by unfold dG;rw[ht];simp[hp,hx]
  rw[c];simp only[];obtain⟨q,bu,_,cq,bG⟩:=hF.ex;have o:p=q:=by rw[hp] at bu;injection bu
  subst o;have aw:a1 u (D+1) s:=hS.mono ad;have cj:x.op≠8→bW u (next f):=fun h=>Cd hF hp (ce h);unfold cp;rcases aJ with⟨ac,⟨e,he,bi⟩,J,aS,bo⟩|⟨ac,aM,sg,J,aS,bo,cr,aY,j⟩|⟨ac,aM,J⟩|⟨ac,aM,⟨e,he,bi⟩,J,aS⟩|⟨ac,aM,J,aS⟩|⟨ac,aM⟩
  ·
   have V:=uF hS hF hp bi;have b:=nW s.globals f.ints e;rw[if_pos (.inl ac),he];simp only[Option.getD_some];split
   ·exact aw.nX ad
   ·rw[if_neg ad]
    cases cc:x.da with
    | true=>
     simp only[if_true];have:=f0 aw ht (cj ad)
     exact⟨this.Bs,this.eC,by show (s.globals.set _ _).length=_;rw[List.length_set];exact hS.da,rM hS.lg V.2.2,this.table,this.holds,this.fault⟩
    | false=>
     simp only[GL,if_false];exact f0 aw ht (sW (cj ad) (List.length_set ..) (rM hF.fits V.2.2))
  ·
   have hI:=n6 hS hF hp x.ints aY;have ca:=lZ (s:=s) hU hF ad x.places j;rw[if_neg ad,if_pos ac];simp only[];by_cases a2:bP (dt s.globals f.ints x.ints).2 (cf u s f x.places).2 (decide (x.op=3∧32≤s.threads.length))≠0
   ·rw[if_pos a2];exact aw.nX (mP _ _ _ ad ad)
   ·rw[if_neg a2];obtain⟨aV,O,hm⟩:=nL _ _ _ (Classical.not_not.1 a2);have bL:=pr hU (k:=x.target) J aS (by rw[hI.2.1 aV];exact bo) (by rw[ca.2.1 O];exact cr) hI.2.2 ca.2.2;have aR:=f0 aw ht (cj ad);by_cases a:x.op=3
    ·rw[if_pos a];have n:s.threads.length<32:=by
      simp only[decide_eq_false_iff_not,not_and] at hm;have:=hm a;omega
     have hl:(bk s t (next f)).threads.length=s.threads.length:=List.length_modify ..;refine⟨?_,fun y a3=>?_,aR.da,aR.lg,aR.table,fun i y a3=>?_,aR.fault⟩
     ·simp only[Gd,Gm,hl];omega
     ·rcases Gk.1 a3 with a3|a3
      ·exact aR.eC y a3
      ·have:y=[c9 u x.target (dt s.globals f.ints x.ints).1 (cf u s f x.places).1]:=by simpa using a3
       subst this;refine⟨by simp,fun z bv=>?_⟩;have:z=c9 u x.target (dt s.globals f.ints x.ints).1 (cf u s f x.places).1:=by simpa using bv
       subst this;exact bL
     ·refine(aR.holds i y a3).mono ?_ (Gb _);simp only[Gd];omega
    ·rw[if_neg a];exact A9 (f0 hS ht (cj ad)) bL
  ·
   have av:=jw (s:=s) hU hF ad J;rw[if_neg ad,if_neg ad,if_pos ac];simp only[];split
   ·refine aw.nX ?_;rcases av.1 with h|h|h<;>omega
   ·rename_i heq;have aX:=av.2 ad;have aR:=f0 aw ht (cj ad);have hl:(bk s t (next f)).threads.length=s.threads.length:=List.length_modify ..;split
    ·split
     ·rename_i bL;refine⟨aR.Bs,aR.eC,aR.da,aR.lg,by show (gO _ _ _ _).length=_;rw[gT];exact hS.table,fun i y a3=>?_,aR.fault⟩;show i3 u (bk s t (next f)).threads.length (D+1) i y
      rw[hl];refine s8 hS aX.1 ⟨cV,cI⟩ bL i y ?_;have d:(gO u.af s.table (bD u s f x.place).1 t)[i]?=some y:=a3;unfold gO at d;rw[if_pos bL] at d;exact d
     ·exact aw
    ·split
     ·rename_i aj;refine⟨aR.Bs,aR.eC,aR.da,aR.lg,by show (dD _ _ _ _).length=_;rw[fD];exact hS.table,fun i y a3=>?_,aR.fault⟩;show i3 u (bk s t (next f)).threads.length (D+1) i y
      rw[hl];refine(qF hS aj i y ?_).mono (Gb _) ad;have d:(dD u.af s.table (bD u s f x.place).1 t)[i]?=some y:=a3;unfold dD at d;rw[if_pos aj] at d;exact d
     ·exact aw.nX ad
  ·
   have b:=nW s.globals f.ints e;rw[if_pos (.inr ac),he];simp only[Option.getD_some];split
   ·exact aw.nX ad
   ·try rw[if_pos ac]
    refine f0 aw ht ?_;split
    ·exact nZ hF hp J (by rw[hlen];omega)
    ·exact cj ad
  ·rw[if_neg ad,if_neg ad,if_neg ad,if_pos ac];exact f0 aw ht (nZ hF hp J (by rw[hlen];omega))
  ·rw[if_neg ad,if_neg ad,if_neg ad,if_neg ad];exact Ck aw
theorem qo(hU:cU u):a1 u 0 (iE u):=by
 obtain⟨p,h0,hp,aJ,hl⟩:=hU.main;have aw:bW u (c9 u u.main [] []):=by
  refine pr hU h0 (sg:=(0,0)) ?_ rfl rfl (fun v bC=>by simp at bC) (fun v bC=>by simp at bC);show (u.procs.map fun p=>(p.ints,p.av))[u.main.toNat]?=_
  rw[List.getElem?_map,hp];simp[aJ,hl]
 refine⟨by show 1≤[[c9 u u.main [] []]].length∧_;simp[iE],fun t ht=>?_,rfl,fun v bC=>?_,by simp[iE],fun i h aJ=>?_,by simp[iE]⟩
 ·have:t=[c9 u u.main [] []]:=by simpa [iE] using ht
  subst this;refine⟨by simp,fun x hx=>?_⟩;have:x=c9 u u.main [] []:=by simpa using hx
  subst this;exact aw
 ·have:=hU.globals v bC;unfold Fits;omega
 ·have C:(List.replicate (own u.af).length (⟨0,0⟩:ct))[i]?=some h:=aJ;rw[List.getElem?_replicate] at C;split at C
  ·injection C with C;subst C;exact⟨⟨by simp,by simp⟩,⟨by simp,by simp⟩,by simp,fun h=>by simp at h⟩
  ·cases C
end
def FX(l:List Int)(t:Int):Int:=if t<0 then -1 else l.getD t.toNat (-1)
def FF(l:List Int):Nat→Int→Int
 | 0,t=>t
 | k+1,t=>if t<0 then t else FF l k (FX l t)
section
variable {l:List Int}
def vX(l:List Int)(t:Int):Prop:=∀k,0≤FF l k t
theorem vX.next{t:Int}(h:vX l t):vX l (FX l t):=fun k=>by
 have h0:=h 0;have:=h (k+1);rw[FF,if_neg (by exact Int.not_lt.2 h0)] at this;exact this
end
def mI(u:aF)(s:an)(t:Int):Option (Int×Int):=
 match ei s t,dG u s t with
 | some f,some x=>if x.op=4 then
   if (bD u s f x.place).2≠0 then none else if free u.af s.table (bD u s f x.place).1 t=true then none
   else some ((bD u s f x.place).1,(i2 s.table (bD u s f x.place).1).owner - 1) else none
 | _,_=>none
def Fo(u:aF)(s:an)(t:Int):Bool:=(dG u s t).isSome && (mI u s t).isNone
section
variable {u:aF} {D:Nat} {s:an} {t:Int}
theorem rf(h:ei s t=none):dG u s t=none:=by unfold dG;rw[h];rfl
theorem kR(h:mI u s t=some r):∃f x,ei s t=some f∧dG u s t=some x∧x.op=4∧(bD u s f x.place).2=0∧free u.af s.table (bD u s f x.place).1 t=false∧
  r=((bD u s f x.place).1,(i2 s.table (bD u s f x.place).1).owner - 1):=by
 unfold mI at h;split at h
 ·rename_i f x aw hx;split at h
  ·rename_i ct;split at h
   ·cases h
   ·rename_i N;split at h
    ·cases h
    ·rename_i bL;injection h with h;exact⟨f,x,aw,hx,ct,ad,by simpa using bL,h.symm⟩
  ·cases h
 ·cases h
theorem BX(hU:cU u)(hS:a1 u D s):Fo u s t=(ew u s t).2:=by
 unfold Fo mI ew
 cases aw:ei s t with
 | none=>rw[rf aw];rfl
 | some f=>
  cases hx:dG u s t with
  | none=>rfl
  | some x=>
   simp only[Option.isSome_some,Bool.true_and];unfold cp;by_cases ac:x.op=1∨x.op=6
   ·rw[if_pos ac,if_neg ad];simp only[]
    repeat' split
    all_goals rfl
   ·rw[if_neg ac];by_cases J:x.op=2∨x.op=3
    ·rw[if_pos J,if_neg ad];simp only[]
     repeat' split
     all_goals rfl
    ·rw[if_neg J];by_cases bo:x.op=4
     ·rw[if_pos bo,if_pos (Or.inl bo)];simp only[bo,if_true]
      repeat' split
      all_goals first|rfl|simp_all
     ·rw[if_neg bo];simp only[]
      repeat' split
      all_goals first|rfl|omega
def i5:VE→Prop
 | .hR _=>False
 | .un _ x=>i5 x
 | .bin _ x y=>i5 x∧i5 y
 | _=>True
theorem jX(g ai l:List Int):∀x:VE,i5 x→ev g l x=ev ai l x
 | .num _,_=>rfl
 | .ga _,_=>rfl
 | .loc _,_=>rfl
 | .hR _,h=>h.elim
 | .un op x,h=>by
  have aa:=jX g ai l x h
  simp only[ev,aa]
 | .bin op x y,h=>by
  have i:=jX g ai l x h.1;have c:=jX g ai l y h.2;simp only[ev,i,c]
structure t9(u:aF)(s:an)(t e o:Int):Prop where
 waits:mI u s t=some (e,o)
 o0:0≤o
 i5:∀x v,dG u s t=some x→x.place.at_=some v→i5 v
theorem sT{f:aq}{p:bK}(h:∀v,p.at_=some v→i5 v):bD u Q f p=bD u s f p:=by
 have aJ:cC u Q f p=cC u s f p:=by
  unfold cC
  cases hp:p.at_ with
  | none=>rfl
  | some v=>simp only[jX Q.globals s.globals f.ints v (h v hp)]
 unfold bD;rw[aJ]
theorem t9.ao(h:t9 u s t e o)(ht:ei Q t=ei s t)(aj:i2 Q.table e=i2 s.table e):t9 u Q t e o:=by
 obtain⟨f,x,aw,hx,ct,N,bL,aX⟩:=kR h.waits;have a:dG u Q t=some x:=by
  unfold dG at hx ⊢;rw[ht];exact hx
 have he:=sT (u:=u) (s:=s) (Q:=Q) (f:=f) (p:=x.place) fun v bC=>h.i5 x v hx bC;injection aX with ar bE;refine⟨?_,h.o0,fun y v a3 bC=>?_⟩
 ·unfold mI;rw[ht,aw,a];simp only[];rw[if_pos ct,he,if_neg ad];have b:free u.af Q.table (bD u s f x.place).1 t=false:=by
   rw[←ar];rw[←ar] at bL;unfold free at bL ⊢;rw[aj];exact bL
  rw[if_neg (by simp[b]),←ar,aj,←ar] at *;simp[bE]
 ·rw[a] at a3;injection a3 with a3;subst a3;exact h.i5 x v hx bC
theorem gU{l:List (List aq)}{j:Nat}{g:List aq→List aq}(h:i≠j):(l.modify i g)[j]?=l[j]?:=by
 rw[List.getElem?_modify]
 cases l[j]? with
 | none=>rfl
 | some y=>simp[h]
theorem rX{s:an}(aw:Q.fault=s.fault)(h:Q.threads[t.toNat]?=s.threads[t.toNat]?):ei Q t=ei s t:=by
 unfold ei;rw[aw,h]
theorem tF(hU:cU u)(ht:0≤t∧t<s.threads.length)(hp:p≠t)(dX:s.fault=0)(aw:(ew u s p).1.fault=0):ei (ew u s p).1 t=ei s t:=by
 refine rX (aw.trans dX.symm) ?_;unfold ew at aw ⊢
 cases bu:ei s p with
 | none=>rfl
 | some f=>
  have m:0≤p:=(iK bu).2.1;have a2:p.toNat≠t.toNat:=ad
  cases hx:dG u s p with
  | none=>rfl
  | some x=>
   simp only[];unfold cp;simp only[]
   repeat' split
   all_goals simp only[bk,oz,rD]
   all_goals first
    | rfl
    | exact gU a2
    | (rw[gU a2];exact gU a2)
    | (rw[List.getElem?_append_left (by rw[List.length_modify];omega)];exact gU a2)
theorem AL{l:Int}(h0:0≤bG X e∨True)(he:0≤e)(bi:(i2 T e).owner≠0)(hp:(i2 T e).owner≠p+1):i2 (gO X T l p) e=i2 T e:=by
 unfold gO;split
 ·rename_i bL;by_cases g:l=e
  ·subst g;unfold free at bL;simp[bi,hp] at bL
  ·have a:0≤l:=by
    unfold free at bL;simp only[Gn,GK] at bL;exact(e7.1 bL.1.1).1
   unfold i2;rw[List.getElem?_set_ne ad]
 ·rfl
theorem tS{l:Int}(he:0≤e)(hp:(i2 T e).owner≠p+1):i2 (dD X T l p) e=i2 T e:=by
 unfold dD;split
 ·rename_i aj;by_cases g:l=e
  ·subst g;unfold heldBy at aj;simp[hp] at aj
  ·have a:0≤l:=by
    unfold heldBy at aj;simp only[Gn,GK] at aj;exact(e7.1 aj.1.1).1
   unfold i2;rw[List.getElem?_set_ne ad]
 ·rfl
theorem tG(he:0≤e)(bi:(i2 s.table e).owner≠0)(hp:(i2 s.table e).owner≠p+1):i2 (ew u s p).1.table e=i2 s.table e:=by
 unfold ew
 cases bu:ei s p with
 | none=>rfl
 | some f=>
  cases hx:dG u s p with
  | none=>rfl
  | some x=>
   simp only[];unfold cp;simp only[]
   repeat' split
   all_goals first
    | rfl
    | exact AL (.inr trivial) he bi hp
    | exact tS he hp
theorem oI(h:(ew u s t).2=false):(ew u s t).1=s:=by
 unfold ew at h ⊢
 cases bu:ei s t with
 | none=>rfl
 | some f=>
  cases hx:dG u s t with
  | none=>rfl
  | some x=>
   rw[bu,hx] at h;simp only[] at h ⊢;unfold cp at h ⊢;simp only[] at h ⊢
   repeat' split
   all_goals first
    | rfl
    | (exfalso;simp_all;done)
    | (exfalso;revert h;repeat' split;all_goals simp_all)
theorem rZ(hU:cU u)(hS:a1 u D s)(h:mI u s t=some (e,o)):0≤e∧(i2 s.table e).owner=o+1∧0≤t∧t<s.threads.length:=by
 obtain⟨f,x,aw,hx,ct,N,bL,aX⟩:=kR h;injection aX with ar bE;have ht:=hS.top aw;refine⟨?_,by rw[ar];omega,ht.2.1,ht.2.2⟩;obtain⟨p,y,hp,U,a3,len,hlen,aJ,_⟩:=n5 hU ht.1;have c:x=y:=by
  unfold dG at hx;rw[aw] at hx;simp only[Option.bind_some,hp,a3,GI] at hx;exact hx.symm
 subst c;obtain⟨q,bu,_,_,ap⟩:=ht.1.ex;rw[hp] at bu;injection bu with bu;subst bu;have cd:cT (bs u) p.locals p.av x.place:=by
  rcases aJ with⟨ac,_⟩|⟨ac,_⟩|⟨ac,_,J⟩|⟨ac,_⟩|⟨ac,_⟩|⟨ac,_⟩
  ·omega
  ·omega
  ·exact J
  ·omega
  ·omega
  ·omega
 have:=(jw (s:=s) hU ht.1 ad cd).2 ad;rw[ar];exact this.1
theorem qH(h:mI u s t=some r):Fo u s t=false:=by unfold Fo;rw[h];simp
def nu(u:aF)(s:an)(d:List Int):Prop:=∀t∈d,∃e o,t9 u s t e o∧o∈d
theorem nu.step{d:List Int}(hU:cU u)(hS:a1 u D s)(h:nu u s d)(p:Int)(aw:(ew u s p).1.fault=0):nu u (ew u s p).1 d:=by
 by_cases hp:p∈d
 ·obtain⟨e,o,hs,_⟩:=h p hp;rw[oI (by rw[←BX hU hS];exact qH hs.waits)];exact h
 ·intro t ht;obtain⟨e,o,hs,bi⟩:=h t ht;obtain⟨f,x,aq,_⟩:=kR hs.waits;obtain⟨ac,J,aS,bo⟩:=rZ hU hS hs.waits;have dK:p≠t:=fun e=>hp (by rw[e];exact ht);have c3:p≠o:=fun e=>hp (by rw[e];exact bi);have h0:=hs.o0;exact⟨e,o,hs.ao (tF hU ⟨aS,bo⟩ dK (iK aq).1 aw) (tG ac ad ad),bi⟩
end
end Go.Proofs.YtjhgbdckgkppnaaGreat
