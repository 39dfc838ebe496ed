/- -/
import Derived.Test.YtbmaaecppfdjfaaGreatDoorCA
namespace Sg
open Go
set_option linter.unusedVariables false
set_option linter.unusedSimpArgs false
def needOf (o : Oper) : Nat := o.after.toList.foldl (fun m e => if Region.binds .any e then Nat.lor m (Nat.shiftLeft 1 e.on) else m) 0
theorem Jgq (m i k : Nat) : (Nat.lor m (Nat.shiftLeft 1 i)).testBit k = (m.testBit k || decide (k = i)) := by
 show (m ||| (1 <<< i)).testBit k = _
 rw [Nat.testBit_or, Nat.one_shiftLeft, Nat.testBit_two_pow]
 congr 1
 simp [eq_comm]
theorem needFold (l : List Edge) (m k : Nat) : (l.foldl (fun m e => if Region.binds .any e then Nat.lor m (Nat.shiftLeft 1 e.on) else m) m).testBit k = (m.testBit k || l.any fun e => Region.binds .any e && decide (k = e.on)) := by
  induction l generalizing m with
  | nil => simp
  | cons e l ih =>
    rw [List.foldl_cons, ih, List.any_cons]
    by_cases hb : Region.binds .any e = true
    · rw [if_pos hb, Jgq, hb]; simp [Bool.or_assoc]
    · rw [if_neg hb]; simp [hb]
theorem Jds (o : Oper) (k : Nat) : (needOf o).testBit k = true ↔ ∃ e ∈ o.after, Region.binds .any e = true ∧ e.on = k := by
 unfold needOf
 rw [needFold]
 simp only [Nat.zero_testBit, Bool.false_or, List.any_eq_true, Bool.and_eq_true, decide_eq_true_eq, Array.mem_toList_iff]
 exact ⟨fun ⟨e, h1, h2, h3⟩ => ⟨e, h1, h2, h3.symm⟩, fun ⟨e, h1, h2, h3⟩ => ⟨e, h1, h2, h3.symm⟩⟩
def subM (a b : Nat) : Bool := Nat.beq (Nat.land a b) a
theorem Jhw {a b : Nat} : subM a b = true ↔ ∀ k, a.testBit k = true → b.testBit k = true := by
 unfold subM
 constructor
 ·intro h k hk
  have h := Nat.eq_of_beq_eq_true h
  have h2 : (a &&& b).testBit k = true := by
   show (Nat.land a b).testBit k = true
   rw [h]; exact hk
  rw [Nat.testBit_and] at h2
  simp only [Bool.and_eq_true] at h2
  exact h2.2
 ·intro h
  have : Nat.land a b = a := by
   apply Nat.eq_of_testBit_eq
   intro k
   show (a &&& b).testBit k = _
   rw [Nat.testBit_and]
   cases hk : a.testBit k with
   | false => rfl
   | true => simp [h k hk]
  rw [this]
  exact Nat.beq_refl a
def onlyM (M i : Nat) : Nat → List Nat → Bool
 | _, [] => true
 | j, N :: Ns => (Nat.beq j i || M.testBit j || !subM N M) && onlyM M i (j + 1) Ns
def freeM (L : List Oper) (oi : Oper) (M i : Nat) : Nat → List Oper → List Nat → Bool
 | _, [], _ => true
 | j, o :: os, Ns => (Nat.beq j i || M.testBit j || (match Ns with | N :: _ => N.testBit i | [] => false) || oi.apart L.toArray o) && freeM L oi M i (j + 1) os Ns.tail
def nthN : List Nat → Nat → Option Nat
 | [], _ => none
 | o :: l, i => bif Nat.beq i 0 then some o else nthN l (i - 1)
theorem Jgx : ∀ (l : List Nat) (i : Nat), nthN l i = l[i]?
  | [], i => by simp [nthN]
  | o :: l, 0 => by simp [nthN]
  | o :: l, i + 1 => by
    show (bif Nat.beq (i + 1) 0 then some o else nthN l i) = _
    rw [show Nat.beq (i + 1) 0 = false from rfl, Jgx l i]
    simp
def scrF (L : List Oper) (Ns : List Nat) (dep : Nat) (s0 : List (Nat × Md)) : List (Nat × Md) → List Nat → Nat → Bool
  | [], _, M => Nat.beq M (2 ^ L.length - 1)
  | (i, m) :: s, Ms, M => match nth L i, nthN Ns i, Ms with
    | some o, some N, M' :: Ms => Nat.beq (Nat.lor M (Nat.shiftLeft 1 i)) M' && !M.testBit i && subM N M && (match m with
        | .pure => freeM L o M i 0 L Ns
        | .stable => freeM L o M i 0 L Ns && s0.all (fun p => (match p.2 with | .last => Nat.beq p.1 i || anc L.toArray dep p.1 i | _ => true))
        | .loud => onlyM M i 0 Ns
        | .last => onlyM M i 0 Ns && exOf s0 i) && scrF L Ns dep s0 s Ms M'
    | _, _, _ => false
def needsOk : List Oper → List Nat → Bool
 | [], [] => true
 | o :: os, N :: Ns => Nat.beq (needOf o) N && needsOk os Ns
 | _, _ => false
def scrOkF (L : List Oper) (Ns Ms : List Nat) (dep : Nat) (s : List (Nat × Md)) : Bool :=
 Region.noSelect L.toArray && Nat.beq s.length L.length && needsOk L Ns && scrF L Ns dep s s Ms 0
theorem JcA : ∀ {L : List Oper} {Ns : List Nat}, needsOk L Ns = true → Ns.length = L.length ∧ ∀ (j : Nat) (o : Oper), L[j]? = some o → Ns[j]? = some (needOf o)
  | [], [], _ => ⟨rfl, fun j o h => by simp at h⟩
  | o :: os, N :: Ns, h => by
    simp only [needsOk, Bool.and_eq_true] at h
    obtain ⟨h1, h2⟩ := JcA h.2
    refine ⟨by simp [h1], fun j o' hj => ?_⟩
    cases j with
    | zero =>
      simp only [List.getElem?_cons_zero, Option.some.injEq] at hj ⊢
      subst hj
      exact (Nat.eq_of_beq_eq_true h.1).symm
    | succ j => simpa using h2 j o' (by simpa using hj)
structure LM (n : Nat) (listed : Array Bool) (M : Nat) : Prop where
 sz : listed.size = n
 eq : ∀ j, listed.getD j false = M.testBit j
theorem LM.start (n : Nat) : LM n (Array.replicate n false) 0 := by
 refine ⟨by simp, fun j => ?_⟩
 rw [Nat.zero_testBit]
 by_cases hj : j < n <;> simp [Array.getD_eq_getD_getElem?, Array.getElem?_replicate, hj]
theorem LM.next {n : Nat} {listed : Array Bool} {M i : Nat} (h : LM n listed M) (hi : i < n) : LM n (listed.setIfInBounds i true) (Nat.lor M (Nat.shiftLeft 1 i)) := by
 refine ⟨by simpa using h.sz, fun j => ?_⟩
 rw [Jgq, ← h.eq j]
 have hs := h.sz
 by_cases hji : j = i
 ·subst hji
  simp [Array.getD_eq_getD_getElem?, Array.getElem?_setIfInBounds, hs, hi]
 ·simp [Array.getD_eq_getD_getElem?, Array.getElem?_setIfInBounds, hji, Ne.symm hji]
theorem LM.getT {n : Nat} {listed : Array Bool} {M j : Nat} (h : LM n listed M) (hj : j < n) : listed.getD j true = M.testBit j := by
 rw [← h.eq j]
 have hs := h.sz
 simp [Array.getD_eq_getD_getElem?, Array.getElem?_eq_getElem (show j < listed.size by omega)]
theorem Jdi {M i : Nat} : ∀ {Ns : List Nat} {b : Nat}, onlyM M i b Ns = true → ∀ (j N : Nat), Ns[j]? = some N → b + j = i ∨ M.testBit (b + j) = true ∨ subM N M = false
  | [], _, _, j, N, h => by simp at h
  | N0 :: Ns, b, h, j, N, hj => by
    simp only [onlyM, Bool.and_eq_true, Bool.or_eq_true, Bool.not_eq_true'] at h
    cases j with
    | zero =>
      simp only [List.getElem?_cons_zero, Option.some.injEq] at hj
      subst hj
      rcases h.1 with (h1 | h1) | h1
      · exact .inl (Nat.eq_of_beq_eq_true h1)
      · exact .inr (.inl h1)
      · exact .inr (.inr h1)
    | succ j =>
      have := Jdi h.2 j N (by simpa using hj)
      rwa [show b + 1 + j = b + (j + 1) from by omega] at this
theorem Jdh {L : List Oper} {oi : Oper} {M i : Nat} : ∀ {os : List Oper} {Ns : List Nat} {b : Nat}, freeM L oi M i b os Ns = true → ∀ (j : Nat) (o : Oper), os[j]? = some o → b + j = i ∨ M.testBit (b + j) = true ∨ (∃ N, Ns[j]? = some N ∧ N.testBit i = true) ∨ oi.apart L.toArray o = true
  | [], _, _, _, j, o, h => by simp at h
  | o0 :: os, Ns, b, h, j, o, hj => by
    simp only [freeM, Bool.and_eq_true, Bool.or_eq_true] at h
    cases j with
    | zero =>
      simp only [List.getElem?_cons_zero, Option.some.injEq] at hj
      subst hj
      rcases h.1 with ((h1 | h1) | h1) | h1
      · exact .inl (Nat.eq_of_beq_eq_true h1)
      · exact .inr (.inl h1)
      · cases Ns with
        | nil => simp at h1
        | cons N Ns => exact .inr (.inr (.inl ⟨N, rfl, h1⟩))
      · exact .inr (.inr (.inr h1))
    | succ j =>
      have := Jdh h.2 j o (by simpa using hj)
      rw [show b + 1 + j = b + (j + 1) from by omega] at this
      rcases this with h1 | h1 | ⟨N, h1, h2⟩ | h1
      · exact .inl h1
      · exact .inr (.inl h1)
      · refine .inr (.inr (.inl ⟨N, ?_, h2⟩))
        cases Ns with
        | nil => simp at h1
        | cons _ _ => simpa using h1
      · exact .inr (.inr (.inr h1))
theorem Jge {l : List Nat} {i : Nat} (hn : l.Nodup) (hi : i ∈ l) (h : ∀ j ∈ l, j = i) : l = [i] := by
  match l, hn, hi, h with
  | [a], _, _, h => rw [h a (by simp)]
  | a :: b :: t, hn, _, h =>
    have h1 := h a (by simp)
    have h2 := h b (by simp)
    subst h1; subst h2
    simp at hn
section
variable {L : List Oper} {Ns : List Nat} {listed : Array Bool} {M i : Nat}
theorem readyF (hN : ∀ (j : Nat) (o : Oper), L[j]? = some o → Ns[j]? = some (needOf o)) (h : LM L.length listed M) {o : Oper} (ho : L[i]? = some o) : i ∈ Region.ready .any L.toArray listed ↔ M.testBit i = false ∧ subM (needOf o) M = true := by
 have hi : i < L.length := (List.getElem?_eq_some_iff.1 ho).1
 rw [mem_ready, h.getT hi, Jhw]
 constructor
 ·rintro ⟨h1, o', ho', h2⟩
  simp only [List.getElem?_toArray] at ho'
  rw [ho] at ho'
  cases ho'
  refine ⟨h1, fun k hk => ?_⟩
  obtain ⟨e, he, hb, rfl⟩ := (Jds o k).1 hk
  rw [← h.eq]
  exact h2 e he hb
 ·rintro ⟨h1, h2⟩
  exact ⟨h1, o, by simpa using ho, fun e he hb => by rw [h.eq]; exact h2 _ ((Jds o _).2 ⟨e, he, hb, rfl⟩)⟩
theorem loneF (hl : Ns.length = L.length) (hN : ∀ (j : Nat) (o : Oper), L[j]? = some o → Ns[j]? = some (needOf o)) (h : LM L.length listed M) {o : Oper} (ho : L[i]? = some o) (h1 : M.testBit i = false) (h2 : subM (needOf o) M = true) (h3 : onlyM M i 0 Ns = true) :
  Region.ready .any L.toArray listed = [i] := by
 refine Jge (List.nodup_range.filter _) ((readyF hN h ho).2 ⟨h1, h2⟩) fun j hj => ?_
 obtain ⟨_, o', ho', _⟩ := mem_ready.1 hj
 simp only [List.getElem?_toArray] at ho'
 have hr := (readyF hN h ho').1 hj
 have := Jdi h3 j _ (hN j o' ho')
 simp only [Nat.zero_add] at this
 rcases this with k | k | k
 ·exact k
 ·rw [hr.1] at k; simp at k
 ·rw [hr.2] at k; simp at k
theorem freeF (hN : ∀ (j : Nat) (o : Oper), L[j]? = some o → Ns[j]? = some (needOf o)) (h : LM L.length listed M) {o : Oper} (ho : L[i]? = some o) (hf : freeM L o M i 0 L Ns = true) : Region.free .any L.toArray listed i = true := by
 unfold Region.free
 simp only [List.getElem?_toArray, ho, List.all_eq_true, List.mem_range, List.size_toArray]
 intro j hj
 have hoj : L[j]? = some L[j] := List.getElem?_eq_getElem hj
 have := Jdh hf j L[j] hoj
 simp only [Nat.zero_add] at this
 simp only [hoj, Bool.or_eq_true, beq_iff_eq]
 rcases this with k | k | ⟨N, k1, k2⟩ | k
 ·exact .inl (.inl k)
 ·exact .inl (.inr (by rw [h.getT hj]; exact k))
 ·rw [hN j _ hoj] at k1
  cases k1
  obtain ⟨e, he, hb, hon⟩ := (Jds _ _).1 k2
  exact .inr (.inl (Array.any_eq_true'.2 ⟨e, he, by simp [hb, hon]⟩))
 ·exact .inr (.inr k)
theorem Jg3 {dep : Nat} {s0 : List (Nat × Md)} (hl : Ns.length = L.length) (hN : ∀ (j : Nat) (o : Oper), L[j]? = some o → Ns[j]? = some (needOf o)) : ∀ (s : List (Nat × Md)) (Ms : List Nat) (M : Nat) (listed : Array Bool), LM L.length listed M →
    scrF L Ns dep s0 s Ms M = true → scr L.toArray dep s0 s listed = true
  | [], Ms, M, listed, h, hs => by
    simp only [scrF] at hs
    have hs := Nat.eq_of_beq_eq_true hs
    simp only [scr, List.isEmpty_iff]
    apply List.eq_nil_iff_forall_not_mem.2
    intro j hj
    obtain ⟨h1, o, ho, _⟩ := mem_ready.1 hj
    simp only [List.getElem?_toArray] at ho
    have hjl : j < L.length := (List.getElem?_eq_some_iff.1 ho).1
    rw [h.getT hjl, hs, Nat.testBit_two_pow_sub_one] at h1
    simp [hjl] at h1
  | (i, m) :: s, Ms, M, listed, h, hs => by
    simp only [scrF] at hs
    split at hs
    · rename_i o N M' Ms' ho hNi
      simp only [Bool.and_eq_true, Bool.not_eq_true'] at hs
      obtain ⟨⟨⟨⟨h1, h2⟩, h3⟩, h4⟩, h5⟩ := hs
      have hoL : L[i]? = some o := by rw [← ho, J4M]
      have hil : i < L.length := (List.getElem?_eq_some_iff.1 hoL).1
      have hNL : Ns[i]? = some N := by rw [← hNi, Jgx]
      rw [hN i o hoL] at hNL
      cases hNL
      have hM' := Nat.eq_of_beq_eq_true h1
      have hrec := Jg3 hl hN s Ms' M' (listed.setIfInBounds i true) (hM' ▸ h.next hil) h5
      have hrd : (Region.ready .any L.toArray listed).contains i = true := by
        simpa using (readyF hN h hoL).2 ⟨h2, h3⟩
      simp only [scr, Bool.and_eq_true]
      refine ⟨?_, hrec⟩
      cases m with
      | pure => exact (Bool.and_eq_true _ _).mpr ⟨hrd, freeF hN h hoL h4⟩
      | stable =>
        simp only [Bool.and_eq_true] at h4 ⊢
        exact ⟨⟨hrd, freeF hN h hoL h4.1⟩, h4.2⟩
      | loud => simp only [beq_iff_eq]; exact loneF hl hN h hoL h2 h3 h4
      | last =>
        simp only [Bool.and_eq_true] at h4 ⊢
        exact ⟨by simp only [beq_iff_eq]; exact loneF hl hN h hoL h2 h3 h4.1, h4.2⟩
    · simp at hs
theorem JgB {dep : Nat} {Ms : List Nat} {s : List (Nat × Md)} (h : scrOkF L Ns Ms dep s = true) : scrOk L dep s = true := by
 simp only [scrOkF, scrOk, Bool.and_eq_true] at h ⊢
 obtain ⟨⟨⟨h1, h2⟩, h3⟩, h4⟩ := h
 obtain ⟨hl, hN⟩ := JcA h3
 exact ⟨⟨h1, h2⟩, Jg3 hl hN s Ms 0 _ (LM.start L.length) h4⟩
end
theorem Go1.drawSF {P : Program} {f n : Nat} {L : List Oper} {k : List Item} {σ : Nat → Value} {w : World} {R : Value → World → Prop} {i : Nat} (Ns Ms : List Nat) (dep : Nat) (s : List (Nat × Md))
  (hm : P.follows .mixedOrders = true) (hB : scrOkF L Ns Ms dep s = true) (h : ∀ w1, Same w w1 → GoQ P f n L s k R s σ w1) :
  Go1 P f n (.code (.region i L.toArray true) :: k) σ w R := Go1.drawS dep s hm (JgB hB) h
end Sg
