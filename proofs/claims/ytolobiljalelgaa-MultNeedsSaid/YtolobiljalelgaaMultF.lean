/- Tables: direct products; how many elements they may have. Plain laws. -/
import Derived.Test.YtolobiljalelgaaMultE
namespace Sg
open Go

theorem flatMap_len {α β : Type} {l : List α} {f : α → List β} {m : Nat} (h : ∀ a ∈ l, (f a).length = m) : (l.flatMap f).length = l.length * m := by
  induction l with
  | nil => simp
  | cons a l ih =>
    rw [List.flatMap_cons, List.length_append, ih fun b hb => h b (by simp [hb]), h a (by simp), List.length_cons, Nat.succ_mul, Nat.add_comm]
/-- One row of the product. -/
def dRow (m : Nat) (a b : List Int) : List Int := a.flatMap fun x => b.map fun y => x * m + y
def dTab (t u : List (List Int)) : List (List Int) := t.flatMap fun a => u.map fun b => dRow u.length a b
theorem dRow_len {m : Nat} {a b : List Int} : (dRow m a b).length = a.length * b.length := flatMap_len fun x _ => by simp
theorem dTab_len {t u : List (List Int)} : (dTab t u).length = t.length * u.length := flatMap_len fun x _ => by simp
theorem i64_mul {a b : Int} (ha : 0 ≤ a ∧ a ≤ 400) (hb : 0 ≤ b ∧ b ≤ 400) : 0 ≤ a * b ∧ a * b ≤ 160000 := by
  refine ⟨Int.mul_nonneg ha.1 hb.1, ?_⟩
  have := Int.mul_le_mul ha.2 hb.2 hb.1 (by decide : (0 : Int) ≤ 400)
  omega
section
variable {t u : List (List Int)} (T : Tb t t.length) (U : Tb u u.length)
include T U
/-- The loops of the product of two right tables, as both texts have them. -/
theorem dir_L {K : List (List Int) → Prop} (h : K (dTab t u)) : LoopWP (S := Nat × List (List Int)) (fun s X => mult_Direct_L1 t u K (fun k1 d => X (k1, d)) s.1 s.2) (0, ([] : List (List Int))) := by
  have n4 := T.n4
  have m4 := U.n4
  have hnm : t.length * u.length ≤ 160000 := Nat.mul_le_mul n4 m4
  refine LoopWP.fold t.length (fun k (D : List (List Int)) => D = (t.take k).flatMap fun a => u.map fun b => dRow u.length a b) (by simp) ?_
  rintro k D X hk rfl hX
  show mult_Direct_L1 t u K _ k _
  unfold mult_Direct_L1
  split
  · rename_i hkl
    have hkl' : k < t.length := by omega
    refine ⟨by omega, by omega, ?_⟩
    refine LoopWP.fold u.length (fun q (D : List (List Int)) => D = ((t.take k).flatMap fun a => u.map fun b => dRow u.length a b) ++ ((u.take q).map fun b => dRow u.length (ix t (k : Int)) b)) (by simp) ?_
    rintro q D X2 hq rfl hX2
    show mult_Direct_L2 t u k _ K _ q _
    unfold mult_Direct_L2
    split
    · rename_i hql
      have hql' : q < u.length := by omega
      have r1 := T.row k (by omega) hkl
      have r2 := U.row q (by omega) hql
      refine ⟨by omega, by omega, fun _ => ?_⟩
      refine LoopWP.fold t.length (fun v (d : List Int) => d = dRow u.length ((ix t (k : Int)).take v) (ix u (q : Int))) (by simp [dRow]) ?_
      rintro v d X3 hv rfl hX3
      show mult_Direct_L3 t u k q _ _ K _ v _
      unfold mult_Direct_L3
      split
      · rename_i hvl
        have hvl' : v < t.length := by omega
        refine ⟨by omega, by omega, fun _ => ?_⟩
        refine LoopWP.fold u.length (fun w (d : List Int) => d = dRow u.length ((ix t (k : Int)).take v) (ix u (q : Int)) ++ ((ix u (q : Int)).take w).map fun y => ix (ix t (k : Int)) (v : Int) * u.length + y) (by simp) ?_
        rintro w d X4 hw rfl hX4
        show mult_Direct_L4 t u k q v _ K _ w _
        unfold mult_Direct_L4
        split
        · rename_i hwl
          have hwl' : w < u.length := by omega
          have e1 := T.lo k v (by omega) hkl (by omega) (by omega)
          have e2 := T.hi k v (by omega) hkl (by omega) (by omega)
          have e3 := U.lo q w (by omega) hql (by omega) (by omega)
          have e4 := U.hi q w (by omega) hql (by omega) (by omega)
          have e5 := i64_mul (a := ix (ix t (k : Int)) (v : Int)) (b := u.length) ⟨e1, by omega⟩ (by omega)
          refine ⟨by omega, by omega, ⟨by omega, by omega⟩, ⟨by omega, by omega⟩, ?_, hX4 _ hwl' ?_⟩
          · simp only [List.length_append, dRow_len, List.length_map, List.length_take, List.length_cons, List.length_nil]
            have : min v (ix t (k : Int)).length * (ix u (q : Int)).length ≤ 400 * 400 := Nat.mul_le_mul (by omega) (by omega)
            omega
          · rw [take_ix (by omega), List.map_append, List.append_assoc]; rfl
        · have : w = u.length := by omega
          subst this
          refine hX3 _ hvl' ?_
          rw [take_ix (by omega)]
          simp [dRow, List.take_of_length_le (Nat.le_of_eq r2)]
      · have : v = t.length := by omega
        subst this
        refine ⟨?_, hX2 _ hql' ?_⟩
        · simp only [List.length_append, List.length_map, List.length_cons, List.length_nil, List.length_take]
          have h1 : (List.flatMap (fun a => List.map (fun b => dRow u.length a b) u) (List.take k t)).length = (t.take k).length * u.length := flatMap_len fun x _ => by simp
          rw [h1, List.length_take]
          have : min k t.length * u.length ≤ 400 * 400 := Nat.mul_le_mul (by omega) (by omega)
          omega
        · rw [take_ix hql', List.map_append, List.append_assoc]
          simp [List.take_of_length_le (Nat.le_of_eq r1)]
    · have : q = u.length := by omega
      subst this
      refine hX _ hkl' ?_
      rw [take_ix hkl', List.flatMap_append]
      simp
  · have : k = t.length := by omega
    subst this
    rw [List.take_length]; exact h
theorem ref14_Direct_ok {K : List (List Int) → Prop} (h : K (dTab t u)) : ref14_Direct t u K := by
  unfold ref14_Direct
  have n4 := T.n4
  have m4 := U.n4
  have hnm : t.length * u.length ≤ 160000 := Nat.mul_le_mul n4 m4
  refine fun _ => LoopWP.fold t.length (fun k (D : List (List Int)) => D = (t.take k).flatMap fun a => u.map fun b => dRow u.length a b) (by simp) ?_
  rintro k D X hk rfl hX
  show ref14_Direct_L1 t u K _ k _
  unfold ref14_Direct_L1
  split
  · rename_i hkl
    have hkl' : k < t.length := by omega
    refine fun _ => LoopWP.fold u.length (fun q (D : List (List Int)) => D = ((t.take k).flatMap fun a => u.map fun b => dRow u.length a b) ++ ((u.take q).map fun b => dRow u.length (ix t (k : Int)) b)) (by simp) ?_
    rintro q D X2 hq rfl hX2
    show ref14_Direct_L2 t u k _ K _ q _
    unfold ref14_Direct_L2
    split
    · rename_i hql
      have hql' : q < u.length := by omega
      have r1 := T.row k (by omega) hkl
      have r2 := U.row q (by omega) hql
      refine LoopWP.fold t.length (fun v (d : List Int) => d = dRow u.length ((ix t (k : Int)).take v) (ix u (q : Int))) (by simp [dRow]) ?_
      rintro v d X3 hv rfl hX3
      show ref14_Direct_L3 t u k q _ _ K _ v _
      unfold ref14_Direct_L3
      split
      · rename_i hvl
        have hvl' : v < t.length := by omega
        refine LoopWP.fold u.length (fun w (d : List Int) => d = dRow u.length ((ix t (k : Int)).take v) (ix u (q : Int)) ++ ((ix u (q : Int)).take w).map fun y => ix (ix t (k : Int)) (v : Int) * u.length + y) (by simp) ?_
        rintro w d X4 hw rfl hX4
        show ref14_Direct_L4 t u k q v _ K _ w _
        unfold ref14_Direct_L4
        split
        · rename_i hwl
          have hwl' : w < u.length := by omega
          have e1 := T.lo k v (by omega) hkl (by omega) (by omega)
          have e2 := T.hi k v (by omega) hkl (by omega) (by omega)
          have e3 := U.lo q w (by omega) hql (by omega) (by omega)
          have e4 := U.hi q w (by omega) hql (by omega) (by omega)
          have e5 := i64_mul (a := ix (ix t (k : Int)) (v : Int)) (b := u.length) ⟨e1, by omega⟩ (by omega)
          refine ⟨by omega, by omega, by omega, by omega, ⟨by omega, by omega⟩, by omega, by omega, by omega, by omega, ⟨by omega, by omega⟩, ?_, hX4 _ hwl' ?_⟩
          · simp only [List.length_append, dRow_len, List.length_map, List.length_take, List.length_cons, List.length_nil]
            have : min v (ix t (k : Int)).length * (ix u (q : Int)).length ≤ 400 * 400 := Nat.mul_le_mul (by omega) (by omega)
            omega
          · rw [take_ix (by omega), List.map_append, List.append_assoc]; rfl
        · have : w = u.length := by omega
          subst this
          refine hX3 _ hvl' ?_
          rw [take_ix (by omega)]
          simp [dRow, List.take_of_length_le (Nat.le_of_eq r2)]
      · have : v = t.length := by omega
        subst this
        refine ⟨?_, hX2 _ hql' ?_⟩
        · simp only [List.length_append, List.length_map, List.length_cons, List.length_nil, List.length_take]
          have h1 : (List.flatMap (fun a => List.map (fun b => dRow u.length a b) u) (List.take k t)).length = (t.take k).length * u.length := flatMap_len fun x _ => by simp
          rw [h1, List.length_take]
          have : min k t.length * u.length ≤ 400 * 400 := Nat.mul_le_mul (by omega) (by omega)
          omega
        · rw [take_ix hql', List.map_append, List.append_assoc]
          simp [List.take_of_length_le (Nat.le_of_eq r1)]
    · have : q = u.length := by omega
      subst this
      refine hX _ hkl' ?_
      rw [take_ix hkl', List.flatMap_append]
      simp
  · have : k = t.length := by omega
    subst this
    rw [List.take_length]; exact h
end
theorem mult_Direct_ok {t u : List (List Int)} {K : List (List Int) → Prop} (h : K (if VT t = true ∧ VT u = true ∧ t.length * u.length ≤ 400 then dTab t u else [])) : mult_Direct t u K := by
  unfold mult_Direct
  refine mult_valid_ok ?_
  split
  · rename_i ht
    refine mult_valid_ok ?_
    split
    · rename_i hu
      have T := SH.tb (VT.sh ht)
      have U := SH.tb (VT.sh hu)
      have n4 := T.n4
      have m4 := U.n4
      have e5 := i64_mul (a := t.length) (b := u.length) (by omega) (by omega)
      refine fun _ _ => ⟨⟨by omega, by omega⟩, ?_⟩
      have hc : (t.length : Int) * u.length = ((t.length * u.length : Nat) : Int) := by simp
      split
      · rw [if_neg (fun hh => by have := hh.2.2; omega)] at h; exact h
      · rw [if_pos ⟨ht, hu, by omega⟩] at h
        exact ⟨⟨by omega, by omega⟩, by omega, by omega, dir_L T U h⟩
    · rename_i hu; rw [if_neg (fun hh => hu hh.2.1)] at h; exact h
  · rename_i ht; rw [if_neg (fun hh => ht hh.1)] at h; exact h
/-- The table in which every product is element 0. -/
def zer (n : Nat) : List (List Int) := List.replicate n (List.replicate n (0 : Int))
theorem zer_VT {n : Nat} (h1 : 1 ≤ n) (h2 : n ≤ 30) : VT (zer n) = true := by
  have hix : ∀ x y : Nat, x < n → y < n → mu (zer n) x y = 0 := fun x y hx hy => by
    unfold mu zer; rw [ix_replicate _ _ hx, ix_replicate _ _ hy]
  have hs : SH (zer n) = true := SH_iff.2 ⟨by simp [zer]; omega, by simp [zer]; omega, fun j hj => by
    have hj' : j < n := by simpa [zer] using hj
    unfold zer
    rw [ix_replicate _ _ hj']
    refine rowB_iff.2 ⟨by simp, fun i hi => ?_⟩
    rw [ix_replicate _ _ (by simpa using hi)]; simp; omega⟩
  simp only [VT, hs, Bool.true_and, decide_eq_true_eq]
  intro x y z hx hy hz
  have hl : (zer n).length = n := by simp [zer]
  rw [hix x y (by omega) (by omega), hix y z (by omega) (by omega)]
  have := hix 0 z (by omega) (by omega)
  have := hix x 0 (by omega) (by omega)
  simp_all
theorem law14_zeros_ok {n : Nat} (h1 : 1 ≤ n) (h2 : n ≤ 30) {K : List (List Int) → Prop} (h : K (zer n)) : law14_zeros (n : Int) K := by
  unfold law14_zeros
  refine LoopWP.fold n (fun k (D : List (List Int)) => D = List.replicate k (List.replicate n (0 : Int))) rfl ?_
  rintro k D X hk rfl hX
  show law14_zeros_L1 (n : Int) K _ k _
  unfold law14_zeros_L1
  split
  · refine ⟨by omega, by omega, by simp; omega, ⟨by omega, by omega⟩, hX _ (by omega) ?_⟩
    rw [List.replicate_succ']; rfl
  · have : k = n := by omega
    subst this; exact h
theorem law14_MultLimits_ok (n m : Int) (hn : 0 ≤ n ∧ n ≤ 255) (hm : 0 ≤ m ∧ m ≤ 255) : law14_MultLimits n m (fun b => b = true) := by
  unfold law14_MultLimits
  have e1 : IntKind.i64.wrap n = n := wrap_i64_id ⟨by omega, by omega⟩
  have e2 : IntKind.i64.wrap m = m := wrap_i64_id ⟨by omega, by omega⟩
  rw [e1, e2]
  have h3 : n.tmod 30 = ((n.toNat % 30 : Nat) : Int) := by
    obtain ⟨a, rfl⟩ := Int.eq_ofNat_of_zero_le hn.1
    exact (Int.ofNat_tmod a 30).symm
  have h4 : m.tmod 30 = ((m.toNat % 30 : Nat) : Int) := by
    obtain ⟨a, rfl⟩ := Int.eq_ofNat_of_zero_le hm.1
    exact (Int.ofNat_tmod a 30).symm
  rw [h3, h4]
  have b1 := Nat.mod_lt n.toNat (show 0 < 30 by decide)
  have b2 := Nat.mod_lt m.toNat (show 0 < 30 by decide)
  generalize n.toNat % 30 = a at *
  generalize m.toNat % 30 = b at *
  have c1 : (a : Int) + 1 = ((a + 1 : Nat) : Int) := by omega
  have c2 : (b : Int) + 1 = ((b + 1 : Nat) : Int) := by omega
  rw [c1, c2]
  have e5 := i64_mul (a := ((a + 1 : Nat) : Int)) (b := ((b + 1 : Nat) : Int)) (by omega) (by omega)
  have hc : ((a + 1 : Nat) : Int) * ((b + 1 : Nat) : Int) = (((a + 1) * (b + 1) : Nat) : Int) := by simp
  refine ⟨⟨by omega, by omega⟩, ⟨by omega, by omega⟩, law14_zeros_ok (by omega) (by omega) (law14_zeros_ok (by omega) (by omega) (mult_Direct_ok ⟨⟨by omega, by omega⟩, ?_⟩))⟩
  have hl1 : (zer (a + 1)).length = a + 1 := by simp [zer]
  have hl2 : (zer (b + 1)).length = b + 1 := by simp [zer]
  rw [hl1, hl2]
  by_cases h4 : (a + 1) * (b + 1) ≤ 400
  · rw [if_neg (by omega), if_pos ⟨zer_VT (by omega) (by omega), zer_VT (by omega) (by omega), h4⟩]
    refine fun _ => ⟨⟨by omega, by omega⟩, ?_⟩
    rw [if_pos (by rw [dTab_len, hl1, hl2]; omega)]
    exact law14_awake_ok rfl
  · rw [if_pos (by omega), if_neg (fun hh => h4 hh.2.2)]
    refine fun _ => ?_
    rw [if_pos (by simp)]
    exact law14_awake_ok rfl
end Sg
