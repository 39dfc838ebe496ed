/- -/
import Derived.Test.YtbmaaecppfdjfaaGreatDoorAgg
import Derived.Test.YtbmaaecppfdjfaaGreatDoorStr
namespace Sg
open Go Go.RowKit
set_option linter.unusedVariables false
set_option linter.unusedSimpArgs false
section
variable {P : Program} {σ : Nat → Value} {w : World} {t ty e : TypeId} {x y : Operand} {A : List Nat} {E : List Ent} {n0 : Nat}
variable {α : Type} {r : Rp α}
theorem Jfx {f : Nat → Option Value} {n : Nat} (h : ∀ i, i < n → ∃ v, f i = some v) : ∃ cs : List Value, cs.length = n ∧ ∀ i, i < n → f i = cs[i]? := by
  induction n with
  | zero => exact ⟨[], rfl, fun i hi => by omega⟩
  | succ n ih =>
    obtain ⟨cs, h1, h2⟩ := ih fun i hi => h i (by omega)
    obtain ⟨v, hv⟩ := h n (by omega)
    refine ⟨cs ++ [v], by simp [h1], fun i hi => ?_⟩
    by_cases hn : i < n
    · rw [h2 i hn, List.getElem?_append_left (by omega)]
    · obtain rfl : i = n := by omega
      rw [hv, List.getElem?_append_right (by omega), h1]
      simp
theorem ldAggR [Inhabited α] {p : Option Addr} {c : Nat} {xs : List α} (hs : ISl r A w p c xs) {i : Int} (h0 : 0 ≤ i) (h1 : i < xs.length) :
  ∃ cs : List Value, cs.length = r.sz ∧ r.R A w (fun j => cs[j]?) (ix xs i) ∧ ∀ {P : Program} {σ : Nat → Value} {t ty : TypeId} {x : Operand} {d : TypeDesc} {zz : Option Value} {bb : Nat}, P.underlying t = some d → scB d = false → ti P t = some (zz, r.sz, bb) → ev σ x = .pointer (padd p (i.toNat * r.sz)) →
   ∀ w', Same w w' → OpV P (.load t x) ty σ w' (.agg cs.toArray) w' := by
 obtain ⟨a, ha, hsp, hb, _, hR⟩ := hs.elem h0 h1
 obtain ⟨cs, hl, hc⟩ := Jfx (f := cel w a) (n := r.sz) fun j hj => let ⟨v, hv, _⟩ := r.one hR j hj; ⟨v, hv⟩
 refine ⟨cs, hl, r.ext (fun j hj => (hc j hj).symm) hR, fun ht hd he hx w' hw => ?_⟩
 rw [ha] at hx
 refine J9W ht hd (by rw [hl]; exact he) hx fun m hm => ?_
 have h2 := hc m (by omega)
 rw [List.getElem?_eq_getElem hm] at h2
 rw [add_lit' a hsp]
 have := Jcr hw hb (a := a) m
 simp only [cel] at this h2
 rw [this, h2]
theorem oldAggR [Inhabited α] {p : Option Addr} {n c : Nat} {vs : List Value} {xs : List α} (j : Nat) (hO : Owns n0 w E A) (hj : E[j]? = some (.row e r.sz p n c vs)) (hE : Els r (bl E ++ A) w vs xs) {i : Int} (h0 : 0 ≤ i) (h1 : i < xs.length) :
  ∃ cs : List Value, cs.length = r.sz ∧ r.R (bl E ++ A) w (fun j => cs[j]?) (ix xs i) ∧ ∀ {P : Program} {σ : Nat → Value} {t ty : TypeId} {x : Operand} {d : TypeDesc} {zz : Option Value} {bb : Nat}, P.underlying t = some d → scB d = false → ti P t = some (zz, r.sz, bb) → ev σ x = .pointer (padd p (i.toNat * r.sz)) →
   ∀ w', Same w w' → OpV P (.load t x) ty σ w' (.agg cs.toArray) w' := by
 have hh := hO.at_ _ (List.mem_of_getElem? hj)
 obtain ⟨hl, hR⟩ := hE.val h0 h1
 have hlen : vs.length = xs.length * r.sz := hE.len
 have hsz : ∀ m, m < r.sz → i.toNat * r.sz + m < vs.length := fun m hm => by
  rw [hlen]
  have h3 : (i.toNat + 1) * r.sz ≤ xs.length * r.sz := Nat.mul_le_mul_right r.sz (by omega)
  rw [Nat.add_mul, Nat.one_mul] at h3
  omega
 obtain ⟨cs, hcl, hc⟩ := Jfx (f := fun m => vs[i.toNat * r.sz + m]?) (n := r.sz) fun m hm => ⟨_, List.getElem?_eq_getElem (hsz m hm)⟩
 refine ⟨cs, hcl, r.ext (fun m hm => (hc m hm).symm) hR, fun ht hd he hx w' hw => ?_⟩
 obtain ⟨g, cur, rfl, hg, _, _, _, _, _, _⟩ := J3J hh hl
 simp only [padd, Option.map_some, Addr.add_lit, Nat.zero_add] at hx
 refine J9W ht hd (by rw [hcl]; exact he) hx fun m hm => ?_
 have hm' : m < r.sz := by omega
 obtain ⟨g', cur', hp, hg', _, _, _, _, _, hcc⟩ := J3J hh (hsz m hm')
 cases hp
 have h2 := hc m hm'
 rw [List.getElem?_eq_getElem hm] at h2
 rw [Addr.add_lit, World.cell?_of_block (w := w) (hw.block g (Array.getElem?_eq_some_iff.1 hg).1), hcc]
 rw [← h2]
 exact (List.getElem?_eq_getElem (hsz m hm')).symm
theorem Els.consR {u : α} {us vs : List Value} {xs : List α} (hl : us.length = r.sz) (hR : r.R A w (fun j => us[j]?) u) (h : Els r A w vs xs) (hb : xs.length + 1 ≤ mx) : Els r A w (us ++ vs) (u :: xs) := by
  refine ⟨by simp [h.len, hl, Nat.add_mul, Nat.add_comm], by simpa using hb, fun k hk => ?_⟩
  cases k with
  | zero => exact r.ext (fun i hi => by simp only [Nat.zero_mul, Nat.zero_add]; rw [List.getElem?_append_left (by omega)]) hR
  | succ k =>
    refine r.ext (fun i hi => ?_) (h.at_ k (by simpa using hk))
    show (us ++ vs)[(k + 1) * r.sz + i]? = vs[k * r.sz + i]?
    rw [List.getElem?_append_right (by rw [hl, Nat.add_mul]; omega), hl, Nat.add_mul]
    congr 1
    omega
theorem cells3 {cs : List Value} (h : cs.length = 3) : ∃ a b c, cs = [a, b, c] := by
 match cs, h with
 | [a, b, c], _ => exact ⟨a, b, c, rfl⟩
end
end Sg
