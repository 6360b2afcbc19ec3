/- Law 11's ring: threads each of which holds a mutex and aw a second one: plain part. No condition. -/
import Derived.Test.YtflecliffjbleaaGreatQ42
import Derived.Test.YtflecliffjbleaaGreatQ32
namespace Go.Proofs.YtflecliffjbleaaGreat
open Go.RowKit
set_option maxRecDepth 1000000
set_option linter.unusedVariables false
def rgY(l:List Int)(i:Nat):Nat:=(within (l.getD i 0) 4).toNat
def rgYs(l:List Int)(k:Nat):List Nat:=(List.range k).map (rgY l)
def rgS(l:List Int)(k:Nat):List UInt8:=JM.flatMap Atom.bytes++(ye 0 (rgYs l k)).flatMap Atom.bytes
theorem rgY_lt(l:List Int)(i:Nat):rgY l i<4:=by
 unfold rgY within;omega
theorem rgY_int(l:List Int)(i:Nat):((rgY l i:Nat):Int)=within (l.getD i 0) 4:=by
 unfold rgY within;omega
theorem rgGos_snoc:∀(a:List Nat) (i y:Nat),ye i (a++[y])=ye i a++FK ((i+a.length) % 4) y
 | [],i,y=>by simp[ye]
 | x::a,i,y=>by
  simp only[List.cons_append,ye,List.append_assoc,rgGos_snoc a (i+1) y,List.length_cons];rw[show i+1+a.length=i+(a.length+1) by omega]
theorem rgS_step(l:List Int)(k:Nat):rgS l (k+1)=rgS l k++(FK (k % 4) (rgY l k)).flatMap Atom.bytes:=by
 unfold rgS rgYs;rw[List.range_succ,List.map_append,List.map_singleton,rgGos_snoc,List.flatMap_append,List.length_map,List.length_range,Nat.zero_add,List.append_assoc]
theorem rgGo_len(x y:Nat):((FK x y).flatMap Atom.bytes).length=24:=by simp[FK,Atom.bytes,GV]
theorem rgS_len(l:List Int):∀k,(rgS l k).length=95+24*k
 | 0=>by rfl
 | k+1=>by rw[rgS_step,List.length_append,rgS_len l k,rgGo_len];omega
theorem rgS_text(l:List Int)(k:Nat):rgS l k++[125]=(uO (rgYs l k)).flatMap Atom.bytes:=by
 unfold rgS uO;rw[List.flatMap_append,List.flatMap_append,List.append_assoc];rfl
theorem rgYs_lt{l:List Int}{k:Nat}:∀y∈rgYs l k,y<4:=λy hyq7=>by
 obtain⟨i,_,rfl⟩:=List.mem_map.1 hyq7;exact rgY_lt l i
theorem rgYs_len(l:List Int)(k:Nat):(rgYs l k).length=k:=by simp[rgYs]
theorem rg_join(l:List Int)(k:Nat){bxq7 bz:Int}(hx:bxq7=97+((k % 4:Nat):Int))(hyq7:bz=97+((rgY l k:Nat):Int)) :
  strOf (rgS l k)++⟨#[103,111,32,102,40,109,117,116,101,120,32]⟩++strOf [byteOf bxq7]++⟨#[44,32,109,117,116,101,120,32]⟩++strOf [byteOf bz]++⟨#[41,59,32]⟩=strOf (rgS l (k+1)):=by
 subst hx hyq7;have h1q7:(⟨#[103,111,32,102,40,109,117,116,101,120,32]⟩:ByteArray)=strOf [103,111,32,102,40,109,117,116,101,120,32]:=rfl;have h2q7:(⟨#[44,32,109,117,116,101,120,32]⟩:ByteArray)=strOf [44,32,109,117,116,101,120,32]:=rfl;have h3q7:(⟨#[41,59,32]⟩:ByteArray)=strOf [41,59,32]:=rfl;have hbq7:∀m:Nat,byteOf (97+(m:Int))=UInt8.ofNat (97+m):=λm=>by unfold byteOf;congr 1
 rw[h1q7,h2q7,h3q7,af,af,af,af,af,rgS_step,hbq7,hbq7];congr 1
 simp[FK,GV,Atom.bytes]
def rgPk(n:Nat):List Int:=List.replicate n 0++(List.range n).map λk:Nat=>(k:Int)+1
def rgU(l:List Int)(n:Nat):av:=gE (Jc (rgYs l n))
theorem rgU_ok(l:List Int){n:Nat}(h:n<=5):zo (rgU l n):=⟨x1 (rg_wf rgYs_lt (by rw[rgYs_len];exact h)),x2 _⟩
def rgX(l:List Int)(n:Nat):ag:=iO (rgU l n) (eK (rgU l n)) (rgPk n)
theorem rgX_ok(l:List Int){n:Nat}(h:n<=5):aS (rgU l n) 60 (rgX l n):=(tr (rgU_ok l h).ok (rgPk n) 0 _ (ta (rgU_ok l h).ok)).mono (by simp[rgPk];omega)
theorem rg_toks(n:Nat)(ysq7:List Nat)(h5q7:ysq7.length<=5):(lV n (uO ysq7)).length<=4001/\0<(lV n (uO ysq7)).length:=by
 match ysq7,h5q7 with
 | [],_=>exact⟨Nat.le_of_ble_eq_true rfl,Nat.le_of_ble_eq_true rfl⟩
 | [a],_=>exact⟨Nat.le_of_ble_eq_true rfl,Nat.le_of_ble_eq_true rfl⟩
 | [a,b],_=>exact⟨Nat.le_of_ble_eq_true rfl,Nat.le_of_ble_eq_true rfl⟩
 | [a,b,c],_=>exact⟨Nat.le_of_ble_eq_true rfl,Nat.le_of_ble_eq_true rfl⟩
 | [a,b,c,d],_=>exact⟨Nat.le_of_ble_eq_true rfl,Nat.le_of_ble_eq_true rfl⟩
 | [a,b,c,d,e],_=>exact⟨Nat.le_of_ble_eq_true rfl,Nat.le_of_ble_eq_true rfl⟩
end Go.Proofs.YtflecliffjbleaaGreat
