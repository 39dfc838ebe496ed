/- Rows of rows: a row is taken out, put back; rows are appended. -/
import Derived.Test.YtjegjjdfgefkoaaTail
namespace Sg
open Go Go.RowKit
set_option linter.unusedVariables false
set_option linter.unusedSimpArgs false
section
variable {P : Program} {σ : Nat → Value} {w : World} {t t' ty e e' : TypeId} {x y z : Operand} {A : List Nat} {E : List Ent} {n0 : Nat}
variable {α : Type} {r : Rp α} {hf : Fl r} {p : Option Addr} {n c : Nat} {hs : Hd} {xss : List (List α)}
theorem Stp.trans {w1 w2 : World} {E1 E2 : List Ent} (h : Stp n0 A w E w1 E1) (k : Stp n0 A w1 E1 w2 E2) : Stp n0 A w E w2 E2 := ⟨k.own, h.fr.trans k.fr⟩
/-- The same blocks, told in other words. -/
theorem Owns.re {E' : List Ent} (h : Owns n0 w E A) (hn : (bl E').Nodup) (hs : ∀ b ∈ bl E', b ∈ bl E) (ha : ∀ e ∈ E', e.holds n0 w) : Stp n0 A w E w E' :=
  ⟨⟨h.le, h.bd, hn, fun b hb => h.out b (hs b hb), ha⟩, ⟨rfl, rfl, rfl, ⟨Nat.le_refl _, fun b _ hb => ⟨rfl, fun hx => hb (hs b hx)⟩⟩⟩⟩
/-- Rows of rows of which the one at i is taken out. -/
structure T2H {α : Type} (r : Rp α) (e e' : TypeId) (p : Option Addr) (n c : Nat) (hs : Hd) (xss : List (List α)) (i : Nat) (n0 : Nat) (w : World) : Prop where
  out : ∃ vs, w.ownsRow n0 e 1 (.slice p n c) n vs ∧ vs.length = xss.length ∧ ∀ k, k < xss.length → k ≠ i → vs[k]? = some (hcell hs xss k)
  len : n = xss.length
  bd : xss.length ≤ mx
  inn : ∀ k : Nat, k < xss.length → k ≠ i → Inn r e' n0 w (hs k) (ix xss (k : Int))
/-! ### Appending rows -/
/-- A cell as it is. -/
def Rp.val : Rp Value where
  sz := 1
  pos := by decide
  R _ _ cs x := cs 0 = some x ∧ x.oneCell' = true
  ch _ h := h
  ext e h := by rw [e 0 (by decide)]; exact h
  one h i hi := ⟨_, (by obtain rfl : i = 0 := by omega
                        exact h.1), h.2⟩
theorem els_val {B : List Nat} {vs : List Value} (h1 : ∀ v ∈ vs, v.oneCell' = true) (hb : vs.length ≤ mx) : Els Rp.val B w vs vs :=
  ⟨by simp [Rp.val], hb, fun k hk => ⟨by simp [Rp.val, List.getElem?_eq_getElem hk], h1 _ (List.getElem_mem hk)⟩⟩
theorem els_val_eq {B : List Nat} {us vs : List Value} (h : Els Rp.val B w us vs) : us = vs := by
  have hl : us.length = vs.length := by have := h.len; simpa [Rp.val] using this
  apply List.ext_getElem hl
  intro k h1 h2
  have := (h.at_ k h2).1
  simp only [Rp.val, Nat.mul_one, Nat.add_zero] at this
  rw [List.getElem?_eq_getElem h1] at this
  exact Option.some.inj this
theorem hcells_one (hs : Hd) (xss : List (List α)) : ∀ v ∈ hcells hs xss, v.oneCell' = true := by
  intro v hv
  obtain ⟨k, _, rfl⟩ := List.mem_map.1 hv
  rfl
/-- The inner rows alone. -/
def innE {α : Type} {r : Rp α} (hf : Fl r) (e' : TypeId) (hs : Hd) (xss : List (List α)) : Ent := .any {
  F := (List.range xss.length).flatMap fun k => pb (hs k).1
  H := fun n0 w => ∀ k : Nat, k < xss.length → Inn r e' n0 w (hs k) (ix xss (k : Int))
  lt := fun h b hb => by
    obtain ⟨k, hk, hb⟩ := List.mem_flatMap.1 hb
    obtain ⟨vs, h1, _⟩ := (h k (by simpa using hk)).ex
    exact row_lt h1 b hb
  keep := fun h hk k hkl => (h k hkl).keep hf fun b hb => hk b (List.mem_flatMap.2 ⟨k, by simpa using hkl, hb⟩)
  base := fun hn h k hk => by obtain ⟨vs, h1, h2⟩ := (h k hk).ex; exact ⟨vs, row_base hn h1, h2⟩ }
theorem fp_inn : (innE hf e' hs xss).fp = (List.range xss.length).flatMap fun k => pb (hs k).1 := rfl
theorem bl_cons (e1 : Ent) (R : List Ent) : bl (e1 :: R) = e1.fp ++ bl R := by simp [bl]
theorem t2split {R : List Ent} (hO : Owns n0 w (t2 hf e e' p n c hs xss :: R) A) : Stp n0 A w (t2 hf e e' p n c hs xss :: R) w (.row e 1 p n c (hcells hs xss) :: innE hf e' hs xss :: R) := by
  have hb : bl (.row e 1 p n c (hcells hs xss) :: innE hf e' hs xss :: R) = bl (t2 hf e e' p n c hs xss :: R) := by
    simp [bl_cons, fp_row, fp_inn, fp_t2, t2fp]
  have hT := t2at 0 hO rfl
  refine Owns.re hO (by rw [hb]; exact hO.nd) (fun b hx => by rw [hb] at hx; exact hx) fun e1 he => ?_
  rcases List.mem_cons.1 he with rfl | he
  · exact hT.out
  · rcases List.mem_cons.1 he with rfl | he
    · exact hT.inn
    · exact hO.at_ _ (List.mem_cons_of_mem _ he)
theorem t2join {R : List Ent} (hO : Owns n0 w (.row e 1 p n c (hcells hs xss) :: innE hf e' hs xss :: R) A) (hl : n = xss.length) (hbd : xss.length ≤ mx) : Stp n0 A w (.row e 1 p n c (hcells hs xss) :: innE hf e' hs xss :: R) w (t2 hf e e' p n c hs xss :: R) := by
  have hb : bl (.row e 1 p n c (hcells hs xss) :: innE hf e' hs xss :: R) = bl (t2 hf e e' p n c hs xss :: R) := by
    simp [bl_cons, fp_row, fp_inn, fp_t2, t2fp]
  refine Owns.re hO (by rw [← hb]; exact hO.nd) (fun b hx => by rw [← hb] at hx; exact hx) fun e1 he => ?_
  rcases List.mem_cons.1 he with rfl | he
  · exact ⟨hO.at_ _ List.mem_cons_self, hl, hbd, hO.at_ (innE hf e' hs xss) (by simp)⟩
  · exact hO.at_ _ (by simp [he])
theorem one_inn {R : List Ent} {p2 : Option Addr} {n2 c2 : Nat} {vs : List Value} {ys : List α} {B : List Nat} (hO : Owns n0 w (.row e' r.sz p2 n2 c2 vs :: R) A) (hE : Els r B w vs ys) : Stp n0 A w (.row e' r.sz p2 n2 c2 vs :: R) w (innE hf e' (fun _ => (p2, c2)) [ys] :: R) := by
  have hn := hE.n_eq (hO.at_ _ List.mem_cons_self)
  have hb : bl (innE hf e' (fun _ => (p2, c2)) [ys] :: R) = bl (.row e' r.sz p2 n2 c2 vs :: R) := by
    simp [bl_cons, fp_row, fp_inn, List.range_succ]
  refine Owns.re hO (by rw [hb]; exact hO.nd) (fun b hx => by rw [hb] at hx; exact hx) fun e1 he => ?_
  rcases List.mem_cons.1 he with rfl | he
  · intro k hk
    have hk0 : k = 0 := by simpa using hk
    subst hk0
    refine ⟨vs, ?_, hE.fl hf⟩
    have := hO.at_ _ List.mem_cons_self
    show w.ownsRow n0 e' r.sz (.slice p2 ys.length c2) ys.length vs
    rw [← hn]; exact this
  · exact hO.at_ _ (by simp [he])
/-- A literal of one row. -/
theorem t2build1 (hf : Fl r) {by_ : Nat} {R : List Ent} {p2 : Option Addr} {n2 c2 : Nat} {vs : List Value} {ys : List α} {B : List Nat} (ht : P.underlying t = some (.slice e)) (he : ti P e = some (some (.slice none 0 0), 1, by_)) (hO : Owns n0 w (.row e' r.sz p2 n2 c2 vs :: R) A) (hE : Els r B w vs ys) :
    ∃ w' q, Stp n0 A w (.row e' r.sz p2 n2 c2 vs :: R) w' (t2 hf e e' q 1 1 (fun _ => (p2, c2)) [ys] :: R) ∧ ∀ {σ : Nat → Value} {ps : List (Nat × Operand)} {ty : TypeId}, (ps.map fun p => (p.1, ev σ p.2)) = [(0, .slice p2 n2 c2)] → OpV P (.buildSlice t 1 ps.toArray) ty σ w (.slice q 1 1) w' := by
  have hn := hE.n_eq (hO.at_ _ List.mem_cons_self)
  obtain ⟨w', q, hst, _, hs, hop⟩ := obuild (r := Rp.val) (n := 1) (parts := [(0, .slice p2 n2 c2)]) (vs := [.slice p2 n2 c2]) (xs := [.slice p2 n2 c2]) rfl ht he hO (by decide) (by kernel_rfl) (els_val (by simp [Value.oneCell']) (by simp [mx])) rfl
  have hE' : Els r (bl (.row e 1 q 1 1 [.slice p2 n2 c2] :: .row e' r.sz p2 n2 c2 vs :: R) ++ A) w' vs ys := hE.fl hf
  have h1 := Stp.front 1 hst.own rfl
  have h2 := one_inn (hf := hf) h1.own hE'
  have h3 := Stp.front 1 h2.own rfl
  have h4 := t2join (p := q) (n := 1) (c := 1) (hs := fun _ => (p2, c2)) (xss := [ys]) (hf := hf) (e := e) (e' := e') (R := R) (by
    have := h3.own
    rw [hn] at this
    exact this) rfl (by simp [mx])
  refine ⟨w', q, ?_, hop⟩
  refine hst.trans (h1.trans (h2.trans (h3.trans ?_)))
  rw [hn]
  exact h4
def hcat (hs : Hd) (n : Nat) (hs' : Hd) : Hd := fun k => if k < n then hs k else hs' (k - n)
theorem ix_right {α : Type} [Inhabited α] {xs ys : List α} {k : Nat} (h : xs.length ≤ k) : ix (xs ++ ys) (k : Int) = ix ys ((k - xs.length : Nat) : Int) := by
  simp only [ix, Int.toNat_natCast, List.getD_eq_getElem?_getD]
  rw [List.getElem?_append_right h]
theorem ix_leftN {α : Type} [Inhabited α] {xs ys : List α} {k : Nat} (h : k < xs.length) : ix (xs ++ ys) (k : Int) = ix xs (k : Int) := ix_left (by omega) (by omega)
theorem hcells_cat (hs hs' : Hd) (xss yss : List (List α)) : hcells (hcat hs xss.length hs') (xss ++ yss) = hcells hs xss ++ hcells hs' yss := by
  apply List.ext_getElem (by simp)
  intro k h1 h2
  have hk : k < (xss ++ yss).length := by simpa using h1
  rw [hcells_get hk]
  by_cases hl : k < xss.length
  · rw [List.getElem_append_left (by simpa using hl), hcells_get hl]
    unfold hcell hcat
    rw [if_pos hl, ix_leftN hl]
  · have h3 : k - xss.length < yss.length := by simp at hk; omega
    rw [List.getElem_append_right (by simp; omega)]
    simp only [hcells_length]
    rw [hcells_get h3]
    unfold hcell hcat
    rw [if_neg hl, ix_right (by omega)]
theorem inn_cat {R : List Ent} {hs' : Hd} {yss : List (List α)} (hO : Owns n0 w (innE hf e' hs xss :: innE hf e' hs' yss :: R) A) : Stp n0 A w (innE hf e' hs xss :: innE hf e' hs' yss :: R) w (innE hf e' (hcat hs xss.length hs') (xss ++ yss) :: R) := by
  have hb : bl (innE hf e' (hcat hs xss.length hs') (xss ++ yss) :: R) = bl (innE hf e' hs xss :: innE hf e' hs' yss :: R) := by
    simp only [bl_cons, fp_inn, List.length_append, ← List.append_assoc]
    congr 1
    rw [List.range_add, List.flatMap_append]
    congr 1
    · rw [List.flatMap_def, List.flatMap_def]
      congr 1
      refine List.map_congr_left fun k hk => ?_
      have hk' : k < xss.length := by simpa using hk
      simp [hcat, hk']
    · rw [List.flatMap_map]
      congr 1
      funext k
      have h1 : ¬ xss.length + k < xss.length := by omega
      simp [hcat, h1]
  refine Owns.re hO (by rw [hb]; exact hO.nd) (fun b hx => by rw [hb] at hx; exact hx) fun e1 he => ?_
  rcases List.mem_cons.1 he with rfl | he
  · intro k hk
    unfold hcat
    by_cases hkl : k < xss.length
    · rw [if_pos hkl, ix_leftN hkl]
      exact hO.at_ (innE hf e' hs xss) (by simp) k hkl
    · rw [if_neg hkl, ix_right (by omega)]
      exact hO.at_ (innE hf e' hs' yss) (by simp) (k - xss.length) (by simp at hk; omega)
  · exact hO.at_ _ (by simp [he])
/-- append(rows, more...) -/
theorem t2cat {by_ : Nat} {R : List Ent} {q : Option Addr} {m d : Nat} {hs' : Hd} {yss : List (List α)} (ht : P.underlying t = some (.slice e)) (he : ti P e = some (some (.slice none 0 0), 1, by_)) (hO : Owns n0 w (t2 hf e e' q m d hs' yss :: t2 hf e e' p n c hs xss :: R) A)
    (hb0 : xss.length + yss.length ≤ 1099511627776) (hby : by_ ≤ 128) :
    ∃ w' p' c', Stp n0 A w (t2 hf e e' q m d hs' yss :: t2 hf e e' p n c hs xss :: R) w' (t2 hf e e' p' (n + m) c' (hcat hs xss.length hs') (xss ++ yss) :: R) ∧
      ∀ {σ : Nat → Value} {x y : Operand} {ty : TypeId}, ev σ x = .slice p n c → ev σ y = .slice q m d → OpV P (.call { callee := .builtin .append, args := #[x, y], argTypes := #[t, t] }) ty σ w (.slice p' (n + m) c') w' := by
  have hm := t2neq 0 hO rfl
  have hn := t2neq 1 hO rfl
  have hbx := t2bd 1 hO rfl
  have hby' := t2bd 0 hO rfl
  have s1 := t2split hO
  -- the outer row of what is appended is only read
  have hv1 : Els Rp.val (bl (.row e 1 q m d (hcells hs' yss) :: innE hf e' hs' yss :: t2 hf e e' p n c hs xss :: R) ++ A) w (hcells hs' yss) (hcells hs' yss) := els_val (hcells_one _ _) (by simpa using hby')
  obtain ⟨f1, f2, f3, f4⟩ := freeze 0 s1.own rfl hv1
  have s2 : Stp n0 A w (.row e 1 q m d (hcells hs' yss) :: innE hf e' hs' yss :: t2 hf e e' p n c hs xss :: R) w (innE hf e' hs' yss :: t2 hf e e' p n c hs xss :: R) := ⟨f1, Owns.dropFr w _ 0⟩
  have s3 := Stp.front 1 s2.own rfl
  have s4 := t2split s3.own
  have i3 := (f3.ch s3.ch).ch s4.ch
  have hv2 : Els Rp.val (bl (.row e 1 p n c (hcells hs xss) :: innE hf e' hs xss :: [innE hf e' hs' yss, t2 hf e e' p n c hs xss].eraseIdx 1 ++ R) ++ A) w (hcells hs xss) (hcells hs xss) := els_val (hcells_one _ _) (by simpa using hbx)
  obtain ⟨w', p', c', vs', s5, hE5, hop⟩ := oapp (r := Rp.val) ht he rfl 0 s4.own rfl hv2 i3 f4 (by simpa using hb0) hby
  have hvs := els_val_eq hE5
  subst hvs
  rw [← hcells_cat] at s5
  have s6 := Stp.front 1 s5.own rfl
  have s7 := Stp.front 2 s6.own rfl
  -- inner rows together
  have s8 : Stp n0 A w' (innE hf e' hs' yss :: innE hf e' hs xss :: .row e 1 p' (n + m) c' (hcells (hcat hs xss.length hs') (xss ++ yss)) :: R) w' (innE hf e' hs xss :: innE hf e' hs' yss :: .row e 1 p' (n + m) c' (hcells (hcat hs xss.length hs') (xss ++ yss)) :: R) := Stp.front 1 s7.own rfl
  have s9 := inn_cat s8.own
  have s10 := Stp.front 1 s9.own rfl
  have s11 := t2join (hf := hf) (e := e) (e' := e') (p := p') (n := n + m) (c := c') (hs := hcat hs xss.length hs') (xss := xss ++ yss) (R := R) s10.own (by simp; omega) (by simp; unfold mx; omega)
  exact ⟨w', p', c', s1.trans (s2.trans (s3.trans (s4.trans (s5.trans (s6.trans (s7.trans (s8.trans (s9.trans (s10.trans s11))))))))), hop⟩
end
end Sg
