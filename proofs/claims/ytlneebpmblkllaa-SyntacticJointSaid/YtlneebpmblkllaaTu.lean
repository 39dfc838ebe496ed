/- -/
import Derived.Test.YtlneebpmblkllaaTi
namespace Sg
open Go Go.RowKit Go.Proofs
structure UN (t : TypeId) (d : TypeDesc) : Prop where
 h : Try.prog.underlying t = some d
structure TI (t : TypeId) (z : Option Value) (s b : Nat) : Prop where
 h : ti Try.prog t = some (z, s, b)
structure UNs (t : TypeId) where
 d : TypeDesc
 h : UN t d
structure TIs (t : TypeId) where
 z : Option Value
 s : Nat
 b : Nat
 h : TI t z s b
instance : Inhabited (UNs 3) := ⟨⟨_, ⟨Try.underlying3⟩⟩⟩
instance : Inhabited (UNs 4) := ⟨⟨_, ⟨Try.underlying4⟩⟩⟩
instance : Inhabited (UNs 5) := ⟨⟨_, ⟨Try.underlying5⟩⟩⟩
instance : Inhabited (UNs 9) := ⟨⟨_, ⟨Try.underlying9⟩⟩⟩
instance : Inhabited (UNs 21) := ⟨⟨_, ⟨Try.underlying21⟩⟩⟩
instance : Inhabited (UNs 22) := ⟨⟨_, ⟨Try.underlying22⟩⟩⟩
instance : Inhabited (UNs 23) := ⟨⟨_, ⟨Try.underlying23⟩⟩⟩
instance : Inhabited (UNs 25) := ⟨⟨_, ⟨Try.underlying25⟩⟩⟩
instance : Inhabited (UNs 30) := ⟨⟨_, ⟨Try.underlying30⟩⟩⟩
instance : Inhabited (UNs 31) := ⟨⟨_, ⟨Try.underlying31⟩⟩⟩
instance : Inhabited (UNs 33) := ⟨⟨_, ⟨Try.underlying33⟩⟩⟩
instance : Inhabited (UNs 39) := ⟨⟨_, ⟨Try.underlying39⟩⟩⟩
instance : Inhabited (UNs 40) := ⟨⟨_, ⟨Try.underlying40⟩⟩⟩
instance : Inhabited (UNs 81) := ⟨⟨_, ⟨Try.underlying81⟩⟩⟩
instance : Inhabited (UNs 83) := ⟨⟨_, ⟨Try.underlying83⟩⟩⟩
instance : Inhabited (UNs 95) := ⟨⟨_, ⟨Try.underlying95⟩⟩⟩
instance : Inhabited (UNs 99) := ⟨⟨_, ⟨Try.underlying99⟩⟩⟩
instance : Inhabited (UNs 117) := ⟨⟨_, ⟨Try.underlying117⟩⟩⟩
instance : Inhabited (UNs 120) := ⟨⟨_, ⟨Try.underlying120⟩⟩⟩
instance : Inhabited (UNs 121) := ⟨⟨_, ⟨Try.underlying121⟩⟩⟩
instance : Inhabited (UNs 123) := ⟨⟨_, ⟨Try.underlying123⟩⟩⟩
instance : Inhabited (UNs 126) := ⟨⟨_, ⟨Try.underlying126⟩⟩⟩
instance : Inhabited (UNs 136) := ⟨⟨_, ⟨Try.underlying136⟩⟩⟩
instance : Inhabited (UNs 137) := ⟨⟨_, ⟨Try.underlying137⟩⟩⟩
instance : Inhabited (UNs 138) := ⟨⟨_, ⟨Try.underlying138⟩⟩⟩
instance : Inhabited (UNs 145) := ⟨⟨_, ⟨Try.underlying145⟩⟩⟩
instance : Inhabited (UNs 154) := ⟨⟨_, ⟨Try.underlying154⟩⟩⟩
instance : Inhabited (UNs 156) := ⟨⟨_, ⟨Try.underlying156⟩⟩⟩
instance : Inhabited (UNs 164) := ⟨⟨_, ⟨Try.underlying164⟩⟩⟩
instance : Inhabited (UNs 166) := ⟨⟨_, ⟨Try.underlying166⟩⟩⟩
instance : Inhabited (UNs 168) := ⟨⟨_, ⟨Try.underlying168⟩⟩⟩
instance : Inhabited (UNs 185) := ⟨⟨_, ⟨Try.underlying185⟩⟩⟩
instance : Inhabited (UNs 188) := ⟨⟨_, ⟨Try.underlying188⟩⟩⟩
instance : Inhabited (TIs 3) := ⟨⟨_, _, _, ⟨ti3⟩⟩⟩
instance : Inhabited (TIs 4) := ⟨⟨_, _, _, ⟨ti4⟩⟩⟩
instance : Inhabited (TIs 5) := ⟨⟨_, _, _, ⟨ti5⟩⟩⟩
instance : Inhabited (TIs 9) := ⟨⟨_, _, _, ⟨ti9⟩⟩⟩
instance : Inhabited (TIs 21) := ⟨⟨_, _, _, ⟨ti21⟩⟩⟩
instance : Inhabited (TIs 22) := ⟨⟨_, _, _, ⟨ti22⟩⟩⟩
instance : Inhabited (TIs 23) := ⟨⟨_, _, _, ⟨ti23⟩⟩⟩
instance : Inhabited (TIs 25) := ⟨⟨_, _, _, ⟨ti25⟩⟩⟩
instance : Inhabited (TIs 30) := ⟨⟨_, _, _, ⟨ti30⟩⟩⟩
instance : Inhabited (TIs 31) := ⟨⟨_, _, _, ⟨ti31⟩⟩⟩
instance : Inhabited (TIs 33) := ⟨⟨_, _, _, ⟨ti33⟩⟩⟩
instance : Inhabited (TIs 39) := ⟨⟨_, _, _, ⟨ti39⟩⟩⟩
instance : Inhabited (TIs 40) := ⟨⟨_, _, _, ⟨ti40⟩⟩⟩
instance : Inhabited (TIs 81) := ⟨⟨_, _, _, ⟨ti81⟩⟩⟩
instance : Inhabited (TIs 83) := ⟨⟨_, _, _, ⟨ti83⟩⟩⟩
instance : Inhabited (TIs 95) := ⟨⟨_, _, _, ⟨ti95⟩⟩⟩
instance : Inhabited (TIs 99) := ⟨⟨_, _, _, ⟨ti99⟩⟩⟩
instance : Inhabited (TIs 117) := ⟨⟨_, _, _, ⟨ti117⟩⟩⟩
instance : Inhabited (TIs 120) := ⟨⟨_, _, _, ⟨ti120⟩⟩⟩
instance : Inhabited (TIs 121) := ⟨⟨_, _, _, ⟨ti121⟩⟩⟩
instance : Inhabited (TIs 123) := ⟨⟨_, _, _, ⟨ti123⟩⟩⟩
instance : Inhabited (TIs 126) := ⟨⟨_, _, _, ⟨ti126⟩⟩⟩
instance : Inhabited (TIs 136) := ⟨⟨_, _, _, ⟨ti136⟩⟩⟩
instance : Inhabited (TIs 137) := ⟨⟨_, _, _, ⟨ti137⟩⟩⟩
instance : Inhabited (TIs 138) := ⟨⟨_, _, _, ⟨ti138⟩⟩⟩
instance : Inhabited (TIs 145) := ⟨⟨_, _, _, ⟨ti145⟩⟩⟩
instance : Inhabited (TIs 154) := ⟨⟨_, _, _, ⟨ti154⟩⟩⟩
instance : Inhabited (TIs 156) := ⟨⟨_, _, _, ⟨ti156⟩⟩⟩
instance : Inhabited (TIs 164) := ⟨⟨_, _, _, ⟨ti164⟩⟩⟩
instance : Inhabited (TIs 166) := ⟨⟨_, _, _, ⟨ti166⟩⟩⟩
instance : Inhabited (TIs 168) := ⟨⟨_, _, _, ⟨ti168⟩⟩⟩
instance : Inhabited (TIs 185) := ⟨⟨_, _, _, ⟨ti185⟩⟩⟩
instance : Inhabited (TIs 188) := ⟨⟨_, _, _, ⟨ti188⟩⟩⟩
theorem und {t : TypeId} [i : Inhabited (UNs t)] : UN t i.default.d := i.default.h
theorem tin {t : TypeId} [i : Inhabited (TIs t)] : TI t i.default.z i.default.s i.default.b := i.default.h
end Sg
