/- -/
import Derived.Test.YtdcibmiaiijjpaaTi
namespace Sg
open Go Go.RowKit Go.Proofs
structure UN (t : TypeId) (d : TypeDesc) : Prop where
 h : Try.prog.underlying t = some d
structure TI (t : TypeId) (z : Option Value) (s b : Nat) : Prop where
 h : ti Try.prog t = some (z, s, b)
structure UNs (t : TypeId) where
 d : TypeDesc
 h : UN t d
structure TIs (t : TypeId) where
 z : Option Value
 s : Nat
 b : Nat
 h : TI t z s b
instance : Inhabited (UNs 3) := ⟨⟨_, ⟨Try.underlying3⟩⟩⟩
instance : Inhabited (UNs 4) := ⟨⟨_, ⟨Try.underlying4⟩⟩⟩
instance : Inhabited (UNs 22) := ⟨⟨_, ⟨Try.underlying22⟩⟩⟩
instance : Inhabited (UNs 26) := ⟨⟨_, ⟨Try.underlying26⟩⟩⟩
instance : Inhabited (UNs 27) := ⟨⟨_, ⟨Try.underlying27⟩⟩⟩
instance : Inhabited (UNs 29) := ⟨⟨_, ⟨Try.underlying29⟩⟩⟩
instance : Inhabited (UNs 33) := ⟨⟨_, ⟨Try.underlying33⟩⟩⟩
instance : Inhabited (UNs 35) := ⟨⟨_, ⟨Try.underlying35⟩⟩⟩
instance : Inhabited (UNs 42) := ⟨⟨_, ⟨Try.underlying42⟩⟩⟩
instance : Inhabited (UNs 49) := ⟨⟨_, ⟨Try.underlying49⟩⟩⟩
instance : Inhabited (UNs 56) := ⟨⟨_, ⟨Try.underlying56⟩⟩⟩
instance : Inhabited (UNs 68) := ⟨⟨_, ⟨Try.underlying68⟩⟩⟩
instance : Inhabited (UNs 72) := ⟨⟨_, ⟨Try.underlying72⟩⟩⟩
instance : Inhabited (UNs 73) := ⟨⟨_, ⟨Try.underlying73⟩⟩⟩
instance : Inhabited (UNs 77) := ⟨⟨_, ⟨Try.underlying77⟩⟩⟩
instance : Inhabited (UNs 78) := ⟨⟨_, ⟨Try.underlying78⟩⟩⟩
instance : Inhabited (UNs 84) := ⟨⟨_, ⟨Try.underlying84⟩⟩⟩
instance : Inhabited (UNs 95) := ⟨⟨_, ⟨Try.underlying95⟩⟩⟩
instance : Inhabited (TIs 3) := ⟨⟨_, _, _, ⟨ti3⟩⟩⟩
instance : Inhabited (TIs 4) := ⟨⟨_, _, _, ⟨ti4⟩⟩⟩
instance : Inhabited (TIs 22) := ⟨⟨_, _, _, ⟨ti22⟩⟩⟩
instance : Inhabited (TIs 26) := ⟨⟨_, _, _, ⟨ti26⟩⟩⟩
instance : Inhabited (TIs 27) := ⟨⟨_, _, _, ⟨ti27⟩⟩⟩
instance : Inhabited (TIs 29) := ⟨⟨_, _, _, ⟨ti29⟩⟩⟩
instance : Inhabited (TIs 33) := ⟨⟨_, _, _, ⟨ti33⟩⟩⟩
instance : Inhabited (TIs 35) := ⟨⟨_, _, _, ⟨ti35⟩⟩⟩
instance : Inhabited (TIs 42) := ⟨⟨_, _, _, ⟨ti42⟩⟩⟩
instance : Inhabited (TIs 49) := ⟨⟨_, _, _, ⟨ti49⟩⟩⟩
instance : Inhabited (TIs 56) := ⟨⟨_, _, _, ⟨ti56⟩⟩⟩
instance : Inhabited (TIs 68) := ⟨⟨_, _, _, ⟨ti68⟩⟩⟩
instance : Inhabited (TIs 72) := ⟨⟨_, _, _, ⟨ti72⟩⟩⟩
instance : Inhabited (TIs 73) := ⟨⟨_, _, _, ⟨ti73⟩⟩⟩
instance : Inhabited (TIs 77) := ⟨⟨_, _, _, ⟨ti77⟩⟩⟩
instance : Inhabited (TIs 78) := ⟨⟨_, _, _, ⟨ti78⟩⟩⟩
instance : Inhabited (TIs 84) := ⟨⟨_, _, _, ⟨ti84⟩⟩⟩
instance : Inhabited (TIs 95) := ⟨⟨_, _, _, ⟨ti95⟩⟩⟩
theorem und {t : TypeId} [i : Inhabited (UNs t)] : UN t i.default.d := i.default.h
theorem tin {t : TypeId} [i : Inhabited (TIs t)] : TI t i.default.z i.default.s i.default.b := i.default.h
end Sg
