/- slices.Sort at []int: the shelf's contract, laid in plain text, and the step of this calculus. -/
import Derived.Test.YtolobiljalelgaaTi
import Derived.Shelf.Sort.Plain
import Derived.Shelf.Slices.In.SortNone
import Derived.Ground.Names2Prog
import Derived.Sort.OwnSortedInts
namespace Sg
open Go Go.Proofs Go.Shelf Go.RowKit
def sgLays_ren : Go.Shelf.Ren := ⟨fun | 189 => 86 | 125 => 93 | 257 => 92 | 128 => 103 | 129 => 104 | 294 => 94 | 295 => 95 | 296 => 96 | 297 => 97 | 298 => 98 | 299 => 99 | 216 => 100 | 300 => 101 | 301 => 102 | 328 => 105 | 329 => 106 | 330 => 107 | 331 => 108 | 332 => 109 | 215 => 110 | 343 => 111 | n => n, fun | 28 => 23 | 3 => 3 | 46 => 69 | 0 => 0 | 51 => 83 | 53 => 85 | 4 => 4 | 183 => 75 | 182 => 74 | 131 => 80 | 5 => 5 | 9 => 9 | 218 => 86 | 222 => 90 | 228 => 92 | 229 => 32 | n => n, fun | n => n⟩
theorem sgLays : Go.Proofs.Lays.n189 Try.prog sgLays_ren := {
  mixed := by kernel_rfl
  f125 := Try.func93.trans (congrArg some (by kernel_rfl))
  f128 := Try.func103.trans (congrArg some (by kernel_rfl))
  f129 := Try.func104.trans (congrArg some (by kernel_rfl))
  f189 := Try.func86.trans (congrArg some (by kernel_rfl))
  f215 := Try.func110.trans (congrArg some (by kernel_rfl))
  f216 := Try.func100.trans (congrArg some (by kernel_rfl))
  f257 := Try.func92.trans (congrArg some (by kernel_rfl))
  f294 := Try.func94.trans (congrArg some (by kernel_rfl))
  f295 := Try.func95.trans (congrArg some (by kernel_rfl))
  f296 := Try.func96.trans (congrArg some (by kernel_rfl))
  f297 := Try.func97.trans (congrArg some (by kernel_rfl))
  f298 := Try.func98.trans (congrArg some (by kernel_rfl))
  f299 := Try.func99.trans (congrArg some (by kernel_rfl))
  f300 := Try.func101.trans (congrArg some (by kernel_rfl))
  f301 := Try.func102.trans (congrArg some (by kernel_rfl))
  f328 := Try.func105.trans (congrArg some (by kernel_rfl))
  f329 := Try.func106.trans (congrArg some (by kernel_rfl))
  f330 := Try.func107.trans (congrArg some (by kernel_rfl))
  f331 := Try.func108.trans (congrArg some (by kernel_rfl))
  f332 := Try.func109.trans (congrArg some (by kernel_rfl))
  f343 := Try.func111.trans (congrArg some (by kernel_rfl))
  t0 := Try.underlying0
  a0 := Try.isAgg0
  z0 := Try.sizeOf0
  v0 := Try.zeroValue0
  t3 := Try.underlying3
  a3 := Try.isAgg3
  z3 := Try.sizeOf3
  v3 := Try.zeroValue3
  t4 := Try.underlying4
  a4 := Try.isAgg4
  z4 := Try.sizeOf4
  v4 := Try.zeroValue4
  t5 := Try.underlying5
  a5 := Try.isAgg5
  z5 := Try.sizeOf5
  v5 := Try.zeroValue5
  t9 := Try.underlying9
  a9 := Try.isAgg9
  z9 := Try.sizeOf9
  v9 := Try.zeroValue9
  t28 := Try.underlying23
  a28 := Try.isAgg23
  z28 := Try.sizeOf23
  v28 := Try.zeroValue23
  t46 := Try.underlying69
  a46 := Try.isAgg69
  z46 := Try.sizeOf69
  v46 := Try.zeroValue69
  t51 := Try.underlying83
  a51 := Try.isAgg83
  z51 := Try.sizeOf83
  v51 := Try.zeroValue83
  t53 := Try.underlying85
  a53 := Try.isAgg85
  z53 := Try.sizeOf85
  v53 := Try.zeroValue85
  t131 := Try.underlying80
  a131 := Try.isAgg80
  z131 := Try.sizeOf80
  v131 := Try.zeroValue80
  t182 := Try.underlying74
  a182 := Try.isAgg74
  z182 := Try.sizeOf74
  v182 := Try.zeroValue74
  t183 := Try.underlying75
  a183 := Try.isAgg75
  z183 := Try.sizeOf75
  v183 := Try.zeroValue75
  t218 := Try.underlying86
  a218 := Try.isAgg86
  z218 := Try.sizeOf86
  v218 := Try.zeroValue86
  t222 := Try.underlying90
  a222 := Try.isAgg90
  z222 := Try.sizeOf90
  v222 := Try.zeroValue90
  t228 := Try.underlying92
  a228 := Try.isAgg92
  z228 := Try.sizeOf92
  v228 := Try.zeroValue92
  t229 := Try.underlying32
  a229 := Try.isAgg32
  z229 := Try.sizeOf32
  v229 := Try.zeroValue32 }
open Go.Sort Go.RowKit in
theorem sgSort (blk off cap : Nat) (zs : List Int) (w : World) (hH : Holds (Value.int .i64) w blk off zs.toArray) (hblk : blk < w.heap.size) (hsz : zs.length < 4611686018427387904) :
    Calls Try.prog 86 #[.slice (some ⟨blk, off, none⟩) zs.length cap] w fun e w' =>
      e = .returned (.tuple #[]) ∧ ∃ n os, w' = grow (putRow (Value.int .i64) (Sort.ahead w n) blk off (zs.mergeSort fun x y => decide (x ≤ y)).toArray) os := Any.slices_Sort_int sgLays blk off cap zs w hH hblk hsz
theorem sgSort_none (p : Option Addr) (cap : Nat) (w : World) :
    Calls Try.prog 86 #[.slice p 0 cap] w fun e w' => e = .returned (.tuple #[]) ∧ w' = w := Any.slices_Sort_int_none sgLays p cap w
theorem els_ints {B : List Nat} {w : World} {vs : List Value} {xs : List Int} (h : Els (Rp.int .i64) B w vs xs) : vs = xs.map (Value.int .i64) := by
  have hl : vs.length = xs.length := by have := h.len; simpa [Rp.int] using this
  apply List.ext_getElem (by simpa using hl)
  intro k h1 h2
  have := h.at_ k (by omega)
  simp only [Rp.int, Nat.mul_one, Nat.add_zero] at this
  rw [List.getElem?_eq_getElem h1] at this
  simpa using Option.some.inj this
theorem ints_els {B : List Nat} {w : World} {xs : List Int} (hb : xs.length ≤ mx) : Els (Rp.int .i64) B w (xs.map (Value.int .i64)) xs :=
  ⟨by simp [Rp.int], hb, fun k hk => by simp [Rp.int, List.getElem?_eq_getElem hk]⟩
open Go.Sort in
/-- slices.Sort of a row of one's own. -/
theorem osort {w : World} {A : List Nat} {E : List Ent} {n0 : Nat} {e : TypeId} {p : Option Addr} {n c : Nat} {vs : List Value} {xs : List Int} {σ : Nat → Value} {ty : TypeId} {x : Operand} {ts : Array TypeId} (hb : Body Try.prog 86) (j : Nat) (hO : Owns n0 w E A) (hj : E[j]? = some (.row e 1 p n c vs)) (hE : Els (Rp.int .i64) (bl E ++ A) w vs xs) (hl0 : xs.length ≤ 1099511627776) (hx : ev σ x = .slice p n c) :
    OpC Try.prog (.call { callee := .value (.func 86), args := #[x], argTypes := ts }) ty σ w (fun v w' => v = .tuple #[] ∧ ∃ vs', Stp n0 A w E w' (E.set j (.row e 1 p n c vs')) ∧ Els (Rp.int .i64) (bl (E.set j (.row e 1 p n c vs')) ++ A) w' vs' (msort xs)) := by
  have hh := hO.at_ _ (List.mem_of_getElem? hj)
  have hn : n = xs.length := hE.n_eq (r := Rp.int .i64) hh
  have hvs := els_ints hE
  refine op_call (xs := [x]) (l := [.slice p n c]) hb (by simp [hx]) ?_
  rcases hh.2 with ⟨hv, h0⟩ | ⟨g, cap, cur, hv, hg0, hg, h1, h2, h3, h4⟩
  · subst h0
    have hx0 : xs = [] := List.eq_nil_of_length_eq_zero hn.symm
    subst hx0
    refine Calls.mono (sgSort_none p c w) fun e1 w1 h => ?_
    obtain ⟨rfl, rfl⟩ := h
    obtain ⟨hjl, hje⟩ := List.getElem?_eq_some_iff.1 hj
    refine ⟨_, rfl, rfl, vs, ?_, ?_⟩
    · rw [← hje, List.set_getElem_self]; exact Stp.same hO (Same.refl _)
    · rw [← hje, List.set_getElem_self]
      simpa [msort] using hE
  · cases hv
    subst hn
    have ht : cur.toList.take xs.length = xs.map (Value.int .i64) := by rw [← hvs, ← h4, Nat.mul_one]
    refine Calls.mono (sgSort g 0 c xs w (holds_of_blockI hg ht) ((Array.getElem?_eq_some_iff.1 hg).1) (by omega)) fun e1 w1 h => ?_
    obtain ⟨rfl, m, os, rfl⟩ := h
    have hgr := grownBy_sortedI (w := w) (g := g) (n := m) (os := os) (msort xs).toArray
    have hlen : (msort xs).length = xs.length := by simp [msort]
    refine ⟨_, rfl, rfl, (msort xs).map (Value.int .i64), Stp.turn hO hj ⟨hgr.os, hgr.tape, hgr.output⟩ hgr.size (fun b hb hnb => hgr.block b hb (by simp [Ent.fp] at hnb; exact fun h => hnb (Option.some.inj h))) (by simp [Ent.fp]) (fun b hb => .inl (by simpa [Ent.fp] using hb)) ?_, ints_els (by rw [hlen]; exact hE.bd)⟩
    exact ownsRow_sortedI hlen hg0 hg h1 h2 h3
end Sg
