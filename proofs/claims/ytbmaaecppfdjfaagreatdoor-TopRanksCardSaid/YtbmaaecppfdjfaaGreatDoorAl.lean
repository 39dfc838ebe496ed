/- -/
import Derived.Test.YtbmaaecppfdjfaaGreatDoorCA
import Derived.Test.YtbmaaecppfdjfaaGreatDoorCB
namespace Sg
open Go
variable {P : Program} {f n : Nat} {L l : List Oper} {k : List Item} {σ : Nat → Value} {w : World} {R : Value → World → Prop}
theorem zo {d : Option Nat} {op : Op} {ty : TypeId} {pos : String} {aft : Array Edge} {g : Option (Nat × Bool)} {v : Value}
  (hv : ∀ w, OpV P op ty σ w v w) (h : GoR P f n L l k (putS σ d v) w R) (hg : gd L σ g = true := by exact rfl) (hd : dOk n d = true := by exact rfl) :
  GoR P f n L (⟨d, op, ty, pos, aft, g⟩ :: l) k σ w R := GoR.op (hv w) hg hd h
theorem zs {d : Option Nat} {op : Op} {ty : TypeId} {pos : String} {aft : Array Edge} {g : Option (Nat × Bool)} {v : Value}
  (hv : ∀ w', Same w w' → OpV P op ty σ w' v w') (h : GoR P f n L l k (putS σ d v) w R) (hg : gd L σ g = true := by exact rfl) (hd : dOk n d = true := by exact rfl) :
  GoR P f n L (⟨d, op, ty, pos, aft, g⟩ :: l) k σ w R := GoR.op (hv w (Same.refl w)) hg hd h
theorem zg {d : Option Nat} {op : Op} {ty : TypeId} {pos : String} {aft : Array Edge} {g : Option (Nat × Bool)} {v : Value} {w' : World}
  (hv : OpV P op ty σ w v w') (h : GoR P f n L l k (putS σ d v) w' R) (hg : gd L σ g = true := by exact rfl) (hd : dOk n d = true := by exact rfl) :
  GoR P f n L (⟨d, op, ty, pos, aft, g⟩ :: l) k σ w R := GoR.op hv hg hd h
theorem zp {d : Option Nat} {op : Op} {ty : TypeId} {pos : String} {aft : Array Edge} {g : Option (Nat × Bool)}
  (h : GoR P f n L l k (putS σ d undef) w R) (hg : gd L σ g = false := by exact rfl) (hd : dOk n d = true := by exact rfl) :
  GoR P f n L (⟨d, op, ty, pos, aft, g⟩ :: l) k σ w R := GoR.pass hg hd h
theorem zn (h : Go1 P f n k σ w R) : GoR P f n L [] k σ w R := GoR.nil h
theorem zq {x y : Code} (h : Go1 P f n (.code x :: .code y :: k) σ w R) : Go1 P f n (.code (.seq x y) :: k) σ w R := Go1.seq h
theorem zr {i : Nat} (h : GoR P f n L L k σ w R) : Go1 P f n (.code (.region i L.toArray false) :: k) σ w R := Go1.region h
theorem zk (h : Go1 P f n k σ w R) : Go1 P f n (.code .skip :: k) σ w R := Go1.skip h
theorem zb {i : Nat} {c : Code} (h : Go1 P f n (.code c :: .inBlock i :: k) σ w R) : Go1 P f n (.code (.block i c) :: k) σ w R := Go1.block h
theorem zt {c : Operand} {x y : Code} {t : Bool} (hc : ev σ c = .bool t) (ht : t = true) (h : Go1 P f n (.code x :: k) σ w R) :
  Go1 P f n (.code (.cond c x y) :: k) σ w R := Go1.condT hc ht h
theorem zf {c : Operand} {x y : Code} {t : Bool} (hc : ev σ c = .bool t) (ht : t = false) (h : Go1 P f n (.code y :: k) σ w R) :
  Go1 P f n (.code (.cond c x y) :: k) σ w R := Go1.condF hc ht h
section
variable {s0 s : List (Nat × Md)} {i : Nat} {d : Option Nat} {op : Op} {ty : TypeId} {pos : String} {aft : Array Edge} {g : Option (Nat × Bool)} {v : Value}
end
section
open Go.RowKit
variable {t t' e : TypeId} {A : List Nat} {E : List Ent} {n0 : Nat}
end
end Sg
