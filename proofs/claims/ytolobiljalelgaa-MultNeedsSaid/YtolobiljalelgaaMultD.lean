/- Tables: the sanity check; the laws on validity and powers. Plain laws. -/
import Derived.Test.YtolobiljalelgaaMultC
namespace Sg
open Go

theorem c2_va : vaC [[0, 1], [1, 0]] = 0 := by decide
theorem c2_vt : VT [[0, 1], [1, 0]] = true := by decide
theorem law14_awake_ok {K : Bool → Prop} (h : K true) : law14_awake K := by
  unfold law14_awake
  refine mult_Validate_ok ?_
  rw [if_pos c2_va]
  refine mult_Identity_ok fun r hr => ?_
  rw [if_pos c2_vt] at hr
  have h0 : idR [[0, 1], [1, 0]] 0 := .inl ⟨0, by decide, rfl, fun x hx => by
    have : x = 0 ∨ x = 1 := by simp at hx; omega
    rcases this with rfl | rfl <;> decide, fun j hj => absurd hj (Nat.not_lt_zero _)⟩
  rw [if_pos (hr.uniq h0)]
  refine mult_Omega_ok fun r hr => ?_
  rw [if_pos (by decide)] at hr
  have h1 : omR [[0, 1], [1, 0]] 1 0 := ⟨1, by decide, by decide⟩
  rw [if_pos (hr.uniq c2_vt (by decide) h1)]
  refine mult_Zero_ok fun r hr => ?_
  rw [if_pos c2_vt] at hr
  have h2 : zeR [[0, 1], [1, 0]] (-1) := .inr ⟨rfl, fun j hj hh => by
    have : j = 0 ∨ j = 1 := by simp at hj; omega
    rcases this with rfl | rfl
    · have := hh 1 (by decide); revert this; decide
    · have := hh 1 (by decide); revert this; decide⟩
  rw [if_pos (hr.uniq h2)]
  exact h
theorem law14_MultValidates_ok (t : List (List Int)) : law14_MultValidates t (fun b => b = true) := by
  unfold law14_MultValidates
  have key : mult_Associative t fun r8 r9 r10 r11 => (ref14_Associative t fun r16 r17 r18 r19 => (if r8 = r16 then (if r9 = r17 then (if r10 = r18 then (if r11 = r19 then (mult_Validate t fun r28 => (if r28 = r19 then (law14_awake  fun r34 => (r34 = true)) else (false = true))) else (false = true)) else (false = true)) else (false = true)) else (false = true))) := by
    refine mult_Associative_ok fun x y z f hf => ref14_Associative_ok fun x' y' z' f' hf' => ?_
    obtain ⟨h1, h2, h3, h4⟩ := hf.uniq hf'
    rw [if_pos h1, if_pos h2, if_pos h3, if_pos h4]
    refine mult_Validate_ok ?_
    rw [if_pos hf'.code.symm]
    exact law14_awake_ok rfl
  refine fun _ => ?_
  split
  · split
    · exact law14_awake_ok rfl
    · exact key
  · exact key
theorem mult_Power_ok' {t : List (List Int)} {x k : Int} (hk : I64 k) {K : Int → Prop} (h : ∀ r, r = (if 1 ≤ k ∧ (inB t.length [x] && VT t) = true then pow t x (k - 1).toNat else -1) → K r) : mult_Power t x k K := mult_Power_ok hk (h _ rfl)
theorem law14_MultPowers_ok (t : List (List Int)) (x k : Int) (hx : I64 x) (hk : I64 k) : law14_MultPowers t x k (fun b => b = true) := by
  unfold law14_MultPowers
  have key : mult_Power t x k fun r13 => (mult_Omega t x fun r18 => (mult_IndexPeriod t x fun r23 r24 => (ref14_Valid t fun r29 => (if r29 = true then (ref14_In t ([x]) fun r53 => (if r53 = true then (ref14_IndexPeriod t x fun r67 r68 => (if r23 = r67 then (if r24 = r68 then (ref14_Omega t x fun r75 => (if r18 = r75 then (if k < (1 : Int) then (if r13 = (-1 : Int) then (law14_awake  fun r83 => (r83 = true)) else (false = true)) else (ref14_Power t x k fun r88 => (if r13 = r88 then (law14_awake  fun r94 => (r94 = true)) else (false = true)))) else (false = true))) else (false = true)) else (false = true))) else (if r13 = (-1 : Int) then (if r18 = (-1 : Int) then (if r23 = (0 : Int) then (if r24 = (0 : Int) then (law14_awake  fun r62 => (r62 = true)) else (false = true)) else (false = true)) else (false = true)) else (false = true)))) else (if r13 = (-1 : Int) then (if r18 = (-1 : Int) then (if r23 = (0 : Int) then (if r24 = (0 : Int) then (law14_awake  fun r38 => (r38 = true)) else (false = true)) else (false = true)) else (false = true)) else (false = true)))))) := by
    refine mult_Power_ok' hk fun q hq => (mult_Omega_ok fun o ho => mult_IndexPeriod_ok fun i p hip => ref14_Valid_ok ?_)
    by_cases hv : VT t = true
    · rw [if_pos hv]
      refine ref14_In_ok ?_
      by_cases hi : inB t.length [x] = true
      · have hb : (inB t.length [x] && VT t) = true := by rw [hi, hv]; rfl
        rw [if_pos hb] at ho hip
        rw [if_pos hi]
        have hxn : 0 ≤ x ∧ x < t.length := inB_mem.1 hi x (by simp)
        refine ref14_IndexPeriod_ok (VT.sh hv) hxn fun i' p' hip' => ?_
        obtain ⟨e1, e2⟩ := hip.uniq hip'
        rw [if_pos e1, if_pos e2]
        refine ref14_Omega_ok hv hxn fun o' ho' => ?_
        rw [if_pos (ho.uniq hv hxn ho')]
        split
        · rw [if_neg (by omega)] at hq; rw [if_pos hq]; exact law14_awake_ok rfl
        · refine ref14_Power_ok (VT.sh hv) hxn (by omega) hk ?_
          rw [if_pos ⟨by omega, hb⟩] at hq; rw [if_pos hq]; exact law14_awake_ok rfl
      · have hb : ¬ (inB t.length [x] && VT t) = true := by simp [hi]
        rw [if_neg hb] at ho hip
        rw [if_neg (fun hh => hb hh.2)] at hq
        rw [if_neg hi, if_pos hq, if_pos ho, if_pos hip.1, if_pos hip.2]
        exact law14_awake_ok rfl
    · have hb : ¬ (inB t.length [x] && VT t) = true := by simp [hv]
      rw [if_neg hb] at ho hip
      rw [if_neg (fun hh => hb hh.2)] at hq
      rw [if_neg hv, if_pos hq, if_pos ho, if_pos hip.1, if_pos hip.2]
      exact law14_awake_ok rfl
  refine ref14_Shape_ok ?_
  split
  · refine fun _ => ?_
    split
    · exact law14_awake_ok rfl
    · exact key
  · exact key
end Sg
