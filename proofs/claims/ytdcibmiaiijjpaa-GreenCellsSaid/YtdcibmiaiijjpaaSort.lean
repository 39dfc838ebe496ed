/- -/
import Derived.Test.YtdcibmiaiijjpaaTi
import Derived.Shelf.Sort.Plain
import Derived.Shelf.Slices.In.SortNone
import Derived.Ground.Names2Prog
import Derived.Sort.OwnSortedInts
namespace Sg
open Go Go.Proofs Go.Shelf Go.RowKit
set_option linter.unusedVariables false
set_option linter.unusedSimpArgs false
def J5E : Go.Shelf.Ren := ⟨fun | 189 => 34 | 125 => 58 | 257 => 57 | 128 => 77 | 129 => 78 | 294 => 69 | 295 => 70 | 296 => 71 | 297 => 72 | 298 => 73 | 299 => 74 | 216 => 59 | 300 => 75 | 301 => 76 | 328 => 80 | 329 => 81 | 330 => 82 | 331 => 83 | 332 => 84 | 215 => 79 | 343 => 85 | n => n, fun | 28 => 26 | 3 => 3 | 46 => 78 | 0 => 0 | 51 => 93 | 53 => 77 | 4 => 4 | 183 => 87 | 182 => 86 | 131 => 60 | 5 => 5 | 9 => 9 | 218 => 96 | 222 => 100 | 228 => 102 | 229 => 103 | n => n, fun | n => n⟩
theorem sgLays : Go.Proofs.Lays.n189 Try.prog J5E := {
 mixed := by kernel_rfl
 f125 := Try.func58.trans (congrArg some (by kernel_rfl))
 f128 := Try.func77.trans (congrArg some (by kernel_rfl))
 f129 := Try.func78.trans (congrArg some (by kernel_rfl))
 f189 := Try.func34.trans (congrArg some (by kernel_rfl))
 f215 := Try.func79.trans (congrArg some (by kernel_rfl))
 f216 := Try.func59.trans (congrArg some (by kernel_rfl))
 f257 := Try.func57.trans (congrArg some (by kernel_rfl))
 f294 := Try.func69.trans (congrArg some (by kernel_rfl))
 f295 := Try.func70.trans (congrArg some (by kernel_rfl))
 f296 := Try.func71.trans (congrArg some (by kernel_rfl))
 f297 := Try.func72.trans (congrArg some (by kernel_rfl))
 f298 := Try.func73.trans (congrArg some (by kernel_rfl))
 f299 := Try.func74.trans (congrArg some (by kernel_rfl))
 f300 := Try.func75.trans (congrArg some (by kernel_rfl))
 f301 := Try.func76.trans (congrArg some (by kernel_rfl))
 f328 := Try.func80.trans (congrArg some (by kernel_rfl))
 f329 := Try.func81.trans (congrArg some (by kernel_rfl))
 f330 := Try.func82.trans (congrArg some (by kernel_rfl))
 f331 := Try.func83.trans (congrArg some (by kernel_rfl))
 f332 := Try.func84.trans (congrArg some (by kernel_rfl))
 f343 := Try.func85.trans (congrArg some (by kernel_rfl))
 t0 := Try.underlying0
 a0 := Try.isAgg0
 z0 := Try.sizeOf0
 v0 := Try.zeroValue0
 t3 := Try.underlying3
 a3 := Try.isAgg3
 z3 := Try.sizeOf3
 v3 := Try.zeroValue3
 t4 := Try.underlying4
 a4 := Try.isAgg4
 z4 := Try.sizeOf4
 v4 := Try.zeroValue4
 t5 := Try.underlying5
 a5 := Try.isAgg5
 z5 := Try.sizeOf5
 v5 := Try.zeroValue5
 t9 := Try.underlying9
 a9 := Try.isAgg9
 z9 := Try.sizeOf9
 v9 := Try.zeroValue9
 t28 := Try.underlying26
 a28 := Try.isAgg26
 z28 := Try.sizeOf26
 v28 := Try.zeroValue26
 t46 := Try.underlying78
 a46 := Try.isAgg78
 z46 := Try.sizeOf78
 v46 := Try.zeroValue78
 t51 := Try.underlying93
 a51 := Try.isAgg93
 z51 := Try.sizeOf93
 v51 := Try.zeroValue93
 t53 := Try.underlying77
 a53 := Try.isAgg77
 z53 := Try.sizeOf77
 v53 := Try.zeroValue77
 t131 := Try.underlying60
 a131 := Try.isAgg60
 z131 := Try.sizeOf60
 v131 := Try.zeroValue60
 t182 := Try.underlying86
 a182 := Try.isAgg86
 z182 := Try.sizeOf86
 v182 := Try.zeroValue86
 t183 := Try.underlying87
 a183 := Try.isAgg87
 z183 := Try.sizeOf87
 v183 := Try.zeroValue87
 t218 := Try.underlying96
 a218 := Try.isAgg96
 z218 := Try.sizeOf96
 v218 := Try.zeroValue96
 t222 := Try.underlying100
 a222 := Try.isAgg100
 z222 := Try.sizeOf100
 v222 := Try.zeroValue100
 t228 := Try.underlying102
 a228 := Try.isAgg102
 z228 := Try.sizeOf102
 v228 := Try.zeroValue102
 t229 := Try.underlying103
 a229 := Try.isAgg103
 z229 := Try.sizeOf103
 v229 := Try.zeroValue103 }
open Go.Sort Go.RowKit in
theorem sgSort (blk off cap : Nat) (zs : List Int) (w : World) (hH : Holds (Value.int .i64) w blk off zs.toArray) (hblk : blk < w.heap.size) (hsz : zs.length < 4611686018427387904) :
  Calls Try.prog 34 #[.slice (some ⟨blk, off, none⟩) zs.length cap] w fun e w' =>
   e = .returned (.tuple #[]) ∧ ∃ n os, w' = grow (putRow (Value.int .i64) (Sort.ahead w n) blk off (zs.mergeSort fun x y => decide (x ≤ y)).toArray) os := Any.slices_Sort_int sgLays blk off cap zs w hH hblk hsz
theorem J5f (p : Option Addr) (cap : Nat) (w : World) :
  Calls Try.prog 34 #[.slice p 0 cap] w fun e w' => e = .returned (.tuple #[]) ∧ w' = w := Any.slices_Sort_int_none sgLays p cap w
theorem J6t {B : List Nat} {w : World} {vs : List Value} {xs : List Int} (h : Els (Rp.int .i64) B w vs xs) : vs = xs.map (Value.int .i64) := by
 have hl : vs.length = xs.length := by have := h.len; simpa [Rp.int] using this
 apply List.ext_getElem (by simpa using hl)
 intro k h1 h2
 have := h.at_ k (by omega)
 simp only [Rp.int, Nat.mul_one, Nat.add_zero] at this
 rw [List.getElem?_eq_getElem h1] at this
 simpa using Option.some.inj this
theorem J6y {B : List Nat} {w : World} {xs : List Int} (hb : xs.length ≤ mx) : Els (Rp.int .i64) B w (xs.map (Value.int .i64)) xs :=
 ⟨by simp [Rp.int], hb, fun k hk => by simp [Rp.int, List.getElem?_eq_getElem hk]⟩
open Go.Sort in
theorem osort {w : World} {A : List Nat} {E : List Ent} {n0 : Nat} {e : TypeId} {p : Option Addr} {n c : Nat} {vs : List Value} {xs : List Int} {σ : Nat → Value} {ty : TypeId} {x : Operand} {ts : Array TypeId} (hb : Body Try.prog 34) (j : Nat) (hO : Owns n0 w E A) (hj : E[j]? = some (.row e 1 p n c vs)) (hE : Els (Rp.int .i64) (bl E ++ A) w vs xs) (hl0 : xs.length ≤ 1099511627776) (hx : ev σ x = .slice p n c) :
  OpC Try.prog (.call { callee := .value (.func 34), args := #[x], argTypes := ts }) ty σ w (fun v w' => v = .tuple #[] ∧ ∃ vs', Stp n0 A w E w' (E.set j (.row e 1 p n c vs')) ∧ Els (Rp.int .i64) (bl (E.set j (.row e 1 p n c vs')) ++ A) w' vs' (msort xs)) := by
 have hh := hO.at_ _ (List.mem_of_getElem? hj)
 have hn : n = xs.length := hE.n_eq (r := Rp.int .i64) hh
 have hvs := J6t hE
 refine J05 (xs := [x]) (l := [.slice p n c]) hb (by simp [hx]) ?_
 rcases hh.2 with ⟨hv, h0⟩ | ⟨g, cap, cur, hv, hg0, hg, h1, h2, h3, h4⟩
 ·subst h0
  have hx0 : xs = [] := List.eq_nil_of_length_eq_zero hn.symm
  subst hx0
  refine Calls.mono (J5f p c w) fun e1 w1 h => ?_
  obtain ⟨rfl, rfl⟩ := h
  obtain ⟨hjl, hje⟩ := List.getElem?_eq_some_iff.1 hj
  refine ⟨_, rfl, rfl, vs, ?_, ?_⟩
  ·rw [← hje, List.set_getElem_self]; exact Stp.same hO (Same.refl _)
  ·rw [← hje, List.set_getElem_self]
   simpa [msort] using hE
 ·cases hv
  subst hn
  have ht : cur.toList.take xs.length = xs.map (Value.int .i64) := by rw [← hvs, ← h4, Nat.mul_one]
  refine Calls.mono (sgSort g 0 c xs w (holds_of_blockI hg ht) ((Array.getElem?_eq_some_iff.1 hg).1) (by omega)) fun e1 w1 h => ?_
  obtain ⟨rfl, m, os, rfl⟩ := h
  have hgr := grownBy_sortedI (w := w) (g := g) (n := m) (os := os) (msort xs).toArray
  have hlen : (msort xs).length = xs.length := by simp [msort]
  refine ⟨_, rfl, rfl, (msort xs).map (Value.int .i64), Stp.turn hO hj ⟨hgr.os, hgr.tape, hgr.output⟩ hgr.size (fun b hb hnb => hgr.block b hb (by simp [Ent.fp] at hnb; exact fun h => hnb (Option.some.inj h))) (by simp [Ent.fp]) (fun b hb => .inl (by simpa [Ent.fp] using hb)) ?_, J6y (by rw [hlen]; exact hE.bd)⟩
  exact ownsRow_sortedI hlen hg0 hg h1 h2 h3
end Sg
