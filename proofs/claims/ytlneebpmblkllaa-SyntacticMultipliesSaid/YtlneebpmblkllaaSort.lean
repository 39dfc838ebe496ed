/- -/
import Derived.Test.YtlneebpmblkllaaTi
import Derived.Shelf.Sort.Plain
import Derived.Shelf.Slices.In.SortNone
import Derived.Ground.Names2Prog
import Derived.Sort.OwnSortedInts
namespace Sg
open Go Go.Proofs Go.Shelf Go.RowKit
set_option linter.unusedVariables false
set_option linter.unusedSimpArgs false
def J78 : Go.Shelf.Ren := ⟨fun | 189 => 100 | 125 => 130 | 257 => 129 | 128 => 152 | 129 => 153 | 294 => 143 | 295 => 144 | 296 => 145 | 297 => 146 | 298 => 147 | 299 => 148 | 216 => 149 | 300 => 150 | 301 => 151 | 328 => 164 | 329 => 165 | 330 => 166 | 331 => 167 | 332 => 168 | 215 => 169 | 343 => 171 | n => n, fun | 28 => 31 | 3 => 3 | 46 => 149 | 0 => 0 | 51 => 179 | 53 => 181 | 4 => 4 | 183 => 173 | 182 => 172 | 131 => 167 | 5 => 5 | 9 => 9 | 218 => 189 | 222 => 193 | 228 => 196 | 229 => 93 | n => n, fun | n => n⟩
theorem sgLays : Go.Proofs.Lays.n189 Try.prog J78 := {
 mixed := by kernel_rfl
 f125 := Try.func130.trans (congrArg some (by kernel_rfl))
 f128 := Try.func152.trans (congrArg some (by kernel_rfl))
 f129 := Try.func153.trans (congrArg some (by kernel_rfl))
 f189 := Try.func100.trans (congrArg some (by kernel_rfl))
 f215 := Try.func169.trans (congrArg some (by kernel_rfl))
 f216 := Try.func149.trans (congrArg some (by kernel_rfl))
 f257 := Try.func129.trans (congrArg some (by kernel_rfl))
 f294 := Try.func143.trans (congrArg some (by kernel_rfl))
 f295 := Try.func144.trans (congrArg some (by kernel_rfl))
 f296 := Try.func145.trans (congrArg some (by kernel_rfl))
 f297 := Try.func146.trans (congrArg some (by kernel_rfl))
 f298 := Try.func147.trans (congrArg some (by kernel_rfl))
 f299 := Try.func148.trans (congrArg some (by kernel_rfl))
 f300 := Try.func150.trans (congrArg some (by kernel_rfl))
 f301 := Try.func151.trans (congrArg some (by kernel_rfl))
 f328 := Try.func164.trans (congrArg some (by kernel_rfl))
 f329 := Try.func165.trans (congrArg some (by kernel_rfl))
 f330 := Try.func166.trans (congrArg some (by kernel_rfl))
 f331 := Try.func167.trans (congrArg some (by kernel_rfl))
 f332 := Try.func168.trans (congrArg some (by kernel_rfl))
 f343 := Try.func171.trans (congrArg some (by kernel_rfl))
 t0 := Try.underlying0
 a0 := Try.isAgg0
 z0 := Try.sizeOf0
 v0 := Try.zeroValue0
 t3 := Try.underlying3
 a3 := Try.isAgg3
 z3 := Try.sizeOf3
 v3 := Try.zeroValue3
 t4 := Try.underlying4
 a4 := Try.isAgg4
 z4 := Try.sizeOf4
 v4 := Try.zeroValue4
 t5 := Try.underlying5
 a5 := Try.isAgg5
 z5 := Try.sizeOf5
 v5 := Try.zeroValue5
 t9 := Try.underlying9
 a9 := Try.isAgg9
 z9 := Try.sizeOf9
 v9 := Try.zeroValue9
 t28 := Try.underlying31
 a28 := Try.isAgg31
 z28 := Try.sizeOf31
 v28 := Try.zeroValue31
 t46 := Try.underlying149
 a46 := Try.isAgg149
 z46 := Try.sizeOf149
 v46 := Try.zeroValue149
 t51 := Try.underlying179
 a51 := Try.isAgg179
 z51 := Try.sizeOf179
 v51 := Try.zeroValue179
 t53 := Try.underlying181
 a53 := Try.isAgg181
 z53 := Try.sizeOf181
 v53 := Try.zeroValue181
 t131 := Try.underlying167
 a131 := Try.isAgg167
 z131 := Try.sizeOf167
 v131 := Try.zeroValue167
 t182 := Try.underlying172
 a182 := Try.isAgg172
 z182 := Try.sizeOf172
 v182 := Try.zeroValue172
 t183 := Try.underlying173
 a183 := Try.isAgg173
 z183 := Try.sizeOf173
 v183 := Try.zeroValue173
 t218 := Try.underlying189
 a218 := Try.isAgg189
 z218 := Try.sizeOf189
 v218 := Try.zeroValue189
 t222 := Try.underlying193
 a222 := Try.isAgg193
 z222 := Try.sizeOf193
 v222 := Try.zeroValue193
 t228 := Try.underlying196
 a228 := Try.isAgg196
 z228 := Try.sizeOf196
 v228 := Try.zeroValue196
 t229 := Try.underlying93
 a229 := Try.isAgg93
 z229 := Try.sizeOf93
 v229 := Try.zeroValue93 }
open Go.Sort Go.RowKit in
theorem sgSort (blk off cap : Nat) (zs : List Int) (w : World) (hH : Holds (Value.int .i64) w blk off zs.toArray) (hblk : blk < w.heap.size) (hsz : zs.length < 4611686018427387904) :
  Calls Try.prog 100 #[.slice (some ⟨blk, off, none⟩) zs.length cap] w fun e w' =>
   e = .returned (.tuple #[]) ∧ ∃ n os, w' = grow (putRow (Value.int .i64) (Sort.ahead w n) blk off (zs.mergeSort fun x y => decide (x ≤ y)).toArray) os := Any.slices_Sort_int sgLays blk off cap zs w hH hblk hsz
theorem J6C (p : Option Addr) (cap : Nat) (w : World) :
  Calls Try.prog 100 #[.slice p 0 cap] w fun e w' => e = .returned (.tuple #[]) ∧ w' = w := Any.slices_Sort_int_none sgLays p cap w
theorem J7R {B : List Nat} {w : World} {vs : List Value} {xs : List Int} (h : Els (Rp.int .i64) B w vs xs) : vs = xs.map (Value.int .i64) := by
 have hl : vs.length = xs.length := by have := h.len; simpa [Rp.int] using this
 apply List.ext_getElem (by simpa using hl)
 intro k h1 h2
 have := h.at_ k (by omega)
 simp only [Rp.int, Nat.mul_one, Nat.add_zero] at this
 rw [List.getElem?_eq_getElem h1] at this
 simpa using Option.some.inj this
theorem J8a {B : List Nat} {w : World} {xs : List Int} (hb : xs.length ≤ mx) : Els (Rp.int .i64) B w (xs.map (Value.int .i64)) xs :=
 ⟨by simp [Rp.int], hb, fun k hk => by simp [Rp.int, List.getElem?_eq_getElem hk]⟩
open Go.Sort in
theorem osort {w : World} {A : List Nat} {E : List Ent} {n0 : Nat} {e : TypeId} {p : Option Addr} {n c : Nat} {vs : List Value} {xs : List Int} {σ : Nat → Value} {ty : TypeId} {x : Operand} {ts : Array TypeId} (hb : Body Try.prog 100) (j : Nat) (hO : Owns n0 w E A) (hj : E[j]? = some (.row e 1 p n c vs)) (hE : Els (Rp.int .i64) (bl E ++ A) w vs xs) (hl0 : xs.length ≤ 1099511627776) (hx : ev σ x = .slice p n c) :
  OpC Try.prog (.call { callee := .value (.func 100), args := #[x], argTypes := ts }) ty σ w (fun v w' => v = .tuple #[] ∧ ∃ vs', Stp n0 A w E w' (E.set j (.row e 1 p n c vs')) ∧ Els (Rp.int .i64) (bl (E.set j (.row e 1 p n c vs')) ++ A) w' vs' (msort xs)) := by
 have hh := hO.at_ _ (List.mem_of_getElem? hj)
 have hn : n = xs.length := hE.n_eq (r := Rp.int .i64) hh
 have hvs := J7R hE
 refine J00 (xs := [x]) (l := [.slice p n c]) hb (by simp [hx]) ?_
 rcases hh.2 with ⟨hv, h0⟩ | ⟨g, cap, cur, hv, hg0, hg, h1, h2, h3, h4⟩
 ·subst h0
  have hx0 : xs = [] := List.eq_nil_of_length_eq_zero hn.symm
  subst hx0
  refine Calls.mono (J6C p c w) fun e1 w1 h => ?_
  obtain ⟨rfl, rfl⟩ := h
  obtain ⟨hjl, hje⟩ := List.getElem?_eq_some_iff.1 hj
  refine ⟨_, rfl, rfl, vs, ?_, ?_⟩
  ·rw [← hje, List.set_getElem_self]; exact Stp.same hO (Same.refl _)
  ·rw [← hje, List.set_getElem_self]
   simpa [msort] using hE
 ·cases hv
  subst hn
  have ht : cur.toList.take xs.length = xs.map (Value.int .i64) := by rw [← hvs, ← h4, Nat.mul_one]
  refine Calls.mono (sgSort g 0 c xs w (holds_of_blockI hg ht) ((Array.getElem?_eq_some_iff.1 hg).1) (by omega)) fun e1 w1 h => ?_
  obtain ⟨rfl, m, os, rfl⟩ := h
  have hgr := grownBy_sortedI (w := w) (g := g) (n := m) (os := os) (msort xs).toArray
  have hlen : (msort xs).length = xs.length := by simp [msort]
  refine ⟨_, rfl, rfl, (msort xs).map (Value.int .i64), Stp.turn hO hj ⟨hgr.os, hgr.tape, hgr.output⟩ hgr.size (fun b hb hnb => hgr.block b hb (by simp [Ent.fp] at hnb; exact fun h => hnb (Option.some.inj h))) (by simp [Ent.fp]) (fun b hb => .inl (by simpa [Ent.fp] using hb)) ?_, J8a (by rw [hlen]; exact hE.bd)⟩
  exact ownsRow_sortedI hlen hg0 hg h1 h2 h3
end Sg
