/- -/
import Derived.Test.YtdcibmiaiijjpaaDrawR
import Derived.Test.YtdcibmiaiijjpaaMap
import Derived.Test.YtdcibmiaiijjpaaCall
namespace Sg
open Go Go.RowKit
set_option linter.unusedVariables false
set_option linter.unusedSimpArgs false
inductive MdA where
 | pure | stable | loud | last | alloc
 deriving DecidableEq
structure Grw (A : List Nat) (w : World) (A1 : List Nat) (w1 : World) : Prop where
 same : Same w w1
 app : ∃ hb : List Nat, A1.Perm (hb ++ A) ∧ ∀ b ∈ hb, w.heap.size ≤ b ∧ b < w1.heap.size
theorem Grw.refl (A : List Nat) (w : World) : Grw A w A w := ⟨Same.refl w, [], List.Perm.refl _, fun _ h => nomatch h⟩
theorem Grw.trans {A B C : List Nat} {u v w : World} (h : Grw A u B v) (k : Grw B v C w) : Grw A u C w := by
 obtain ⟨hb, h1, h2⟩ := h.app
 obtain ⟨kb, k1, k2⟩ := k.app
 refine ⟨h.same.trans k.same, kb ++ hb, ?_, fun b hm => ?_⟩
 ·refine k1.trans ?_
  rw [List.append_assoc]
  exact h1.append_left kb
 ·have := h.same.size
  have := k.same.size
  rcases List.mem_append.1 hm with hm | hm
  ·have := k2 b hm; omega
  ·have := h2 b hm; omega
theorem Grw.ch {A A1 : List Nat} {w w1 : World} (h : Grw A w A1 w1) (B : List Nat) : Ch (B ++ A) w (B ++ A1) w1 := by
 obtain ⟨hb, h1, h2⟩ := h.app
 refine ⟨h.same.size, fun b hlt hn => ⟨h.same.block b hlt, fun hm => ?_⟩⟩
 simp only [List.mem_append, not_or] at hn hm
 rcases hm with hm | hm
 ·exact hn.1 hm
 ·rcases List.mem_append.1 (h1.mem_iff.1 hm) with hm | hm
  ·have := h2 b hm; omega
  ·exact hn.2 hm
theorem Grw.own {A A1 : List Nat} {w w1 : World} (h : Grw A w A1 w1) {n0 : Nat} {E : List Ent} (hO : Owns n0 w E A) : Owns n0 w1 E A1 := by
 obtain ⟨hb, h1, h2⟩ := h.app
 have hs := h.same.size
 refine ⟨Nat.le_trans hO.le hs, fun b hm => ?_, hO.nd, fun b hm hA => ?_, fun e he => Ent.keep (hO.at_ e he) fun b hb => h.same.block b (Ent.lt (hO.at_ e he) b hb).2⟩
 ·rcases List.mem_append.1 (h1.mem_iff.1 hm) with hm | hm
  ·exact (h2 b hm).2
  ·exact Nat.lt_of_lt_of_le (hO.bd b hm) hs
 ·rcases List.mem_append.1 (h1.mem_iff.1 hA) with hA | hA
  ·have := (h2 b hA).1
   have := hO.lt b (List.mem_append_left _ hm)
   omega
  ·exact hO.out b hm hA
structure Kp (A : List Nat) (w w' : World) : Prop where
 size : w.heap.size ≤ w'.heap.size
 keep : ∀ b ∈ A, w'.heap[b]? = w.heap[b]?
theorem Stp.kp {n0 : Nat} {A : List Nat} {w w' : World} {E E' : List Ent} (hO : Owns n0 w E A) (h : Stp n0 A w E w' E') : Kp A w w' :=
 ⟨h.fr.ch.size, fun b hb => (h.fr.ch.keep b (hO.bd b hb) fun hm => hO.out b hm hb).1⟩
theorem Same.kp {n0 : Nat} {A : List Nat} {w w' : World} {E : List Ent} (hO : Owns n0 w E A) (h : Same w w') : Kp A w w' :=
 ⟨h.size, fun b hb => h.block b (hO.bd b hb)⟩
def AlE (P : Program) (op : Op) (ty : TypeId) (σ : Nat → Value) (vf : Nat → Value) (ef : Nat → Ent) : Prop :=
 (∀ b, (ef b).fp = [b]) ∧ ∀ w, ∃ w', OpV P op ty σ w (vf w.heap.size) w' ∧ Same w w' ∧ w.heap.size < w'.heap.size ∧ (ef w.heap.size).holds w.heap.size w'
def LqOk (Lq : List (Option Addr)) (w : World) : Prop := ∀ q ∈ Lq, ∀ a, q = some a → a.block < w.heap.size
structure RTw (T : World → World → Prop) : Prop where
 refl : ∀ w, T w w
 trans : ∀ {a b c}, T a b → T b c → T a c
structure TR (T : World → World → Prop) (ok : World → Prop) : Prop where
 rt : RTw T
 same : ∀ {w w'}, ok w → Same w w' → T w w'
 up : ∀ {w w'}, ok w → w.heap.size ≤ w'.heap.size → ok w'
theorem Same.tr : TR Same (fun _ => True) := ⟨⟨Same.refl, Same.trans⟩, fun _ h => h, fun _ _ => trivial⟩
section
variable {P : Program} {ops : Array Oper} {Q : Exit → Act → World → Prop} {T : World → World → Prop}
def wpDT (T : World → World → Prop) (P : Program) (ops : Array Oper) (ex : Nat → Bool) (Q : Exit → Act → World → Prop) : Nat → Array Bool → Act → World → Prop
  | 0, listed, a, w => Region.ready .any ops listed = [] ∧ Q .normal a w
  | fuel + 1, listed, a, w =>
    (Region.ready .any ops listed = [] → Q .normal a w) ∧
    ∀ i ∈ Region.ready .any ops listed, wpOp P ops Q i (fun a' w' => (T w w' ∨ ex i = true) ∧ wpDT T P ops ex Q fuel (listed.setIfInBounds i true) a' w') a w
theorem J3l {ex : Nat → Bool} : ∀ (fuel : Nat) (listed : Array Bool) (a : Act) (w : World), wpDT T P ops ex Q fuel listed a w → wpAny P .any ops Q fuel listed a w
 | 0, _, _, _, h => h
 | fuel + 1, _, _, _, h => ⟨h.1, fun i hi => wpOp_mono (fun a' w' h' => J3l fuel _ a' w' h'.2) (h.2 i hi)⟩
def YDT (T : World → World → Prop) (P : Program) (ops : Array Oper) (m : Md) (o : Oper) (v : Value) (a : Act) (w : World) : Prop :=
 (Region.wanted o (yielded ops a.tmps) = true ∧ ∀ w', (m = .pure ∨ T w w') → ((execOp a.eval o).run P w' = .ok (.value v) w' ∨ ((execOp a.eval o).run P w' = .ok .skip w' ∧ v = undef))) ∨
 (Region.wanted o (yielded ops a.tmps) = false ∧ v = undef)
theorem YDT.run (hT : RTw T) {m : Md} {i : Nat} {o : Oper} {v : Value} {a : Act} {w : World} (hi : ops[i]? = some o) (hy : YDT T P ops m o v a w) {K : Act → World → Prop} (h : K (a.put o.dst v) w) : wpOp P ops Q i K a w := by
 unfold wpOp
 simp only [hi]
 rcases hy with ⟨hw, hv⟩ | ⟨hw, rfl⟩
 ·simp only [hw, if_true]
  refine .inl ?_
  unfold Oper.wp
  rcases hv w (.inr (hT.refl w)) with hx | ⟨hx, rfl⟩ <;> (rw [hx]; exact h)
 ·simp only [hw, Bool.false_eq_true, if_false]; exact h
theorem YDT.keep (hT : RTw T) {m : Md} {oi oj : Oper} {v : Value} {a : Act} {w w' : World} (hy : YDT T P ops m oi v a w) (hap : oi.apart ops oj = true) (hsi : ∀ cs b, oi.op ≠ .select cs b)
  (hw : m = .pure ∨ T w w') {a' : Act} (ha : ∃ u ds, a' = { a.put oj.dst u with defers := ds }) : YDT T P ops m oi v a' w' := by
 obtain ⟨u, ds, rfl⟩ := ha
 obtain ⟨_, _, h3⟩ := Oper.apart_spec hap
 have e1 : execOp ({ a.put oj.dst u with defers := ds } : Act).eval oi = execOp a.eval oi := by
  have : ({ a.put oj.dst u with defers := ds } : Act).eval = (a.put oj.dst u).eval := by funext x; cases x <;> rfl
  rw [this]; exact execOp_put oi hsi a oj.dst u h3
 have e2 := wanted_put oi a oj.dst u h3
 unfold YDT at *
 rw [e1]
 show (Region.wanted oi (yielded ops (a.put oj.dst u).tmps) = true ∧ _) ∨ (Region.wanted oi (yielded ops (a.put oj.dst u).tmps) = false ∧ _)
 rw [e2]
 rcases hy with ⟨h1, h2⟩ | h
 ·refine .inl ⟨h1, fun w'' h'' => h2 w'' ?_⟩
  rcases hw with hw | hw
  ·exact .inl hw
  ·rcases h'' with h'' | h''
   ·exact .inl h''
   ·exact .inr (hT.trans hw h'')
 ·exact .inr h
theorem J2D (hT : RTw T) (hQ : Plain Q) {ex : Nat → Bool} {m : Md} {i : Nat} {oi : Oper} {v : Value} (hi : ops[i]? = some oi) (hsel : ∀ (j : Nat) (o : Oper) cs b, ops[j]? = some o → o.op ≠ .select cs b)
    (hm : m = .pure ∨ ∃ n, ∀ j, ex j = true → j ≠ i → anc ops n j i = true) :
    ∀ (fuel : Nat) (listed : Array Bool) (a : Act) (w : World), DC ops listed →
      (∀ j oj, ops[j]? = some oj → j ≠ i → listed.getD j true = false → (∀ e ∈ oj.after, Region.binds .any e = true → e.on ≠ i) → oi.apart ops oj = true) →
      i ∈ Region.ready .any ops listed → YDT T P ops m oi v a w →
      wpDT T P ops ex Q fuel (listed.setIfInBounds i true) (a.put oi.dst v) w → wpDT T P ops ex Q (fuel + 1) listed a w := by
  intro fuel
  induction fuel with
  | zero =>
    intro listed a w _ _ hr hy H
    refine ⟨fun h => (by rw [h] at hr; cases hr), fun j hj => ?_⟩
    by_cases hji : j = i
    · subst hji; exact hy.run hT hi ⟨.inl (hT.refl w), H⟩
    · have := ready_mono hj hji
      rw [H.1] at this
      cases this
  | succ fuel ih =>
    intro listed a w hdc hfree hr hy H
    refine ⟨fun h => (by rw [h] at hr; cases hr), fun j hj => ?_⟩
    by_cases hji : j = i
    · subst hji; exact hy.run hT hi ⟨.inl (hT.refl w), H⟩
    · have h1 := H.2 j (ready_mono hj hji)
      obtain ⟨hjun, oj, hoj, hall⟩ := mem_ready.1 hj
      have hiun : listed.getD i true = false := (mem_ready.1 hr).1
      have hnot : ∀ e ∈ oj.after, Region.binds .any e = true → e.on ≠ i := fun e he hb heq => by
        have h1 := hall e he hb
        rw [heq] at h1
        rcases Nat.lt_or_ge i listed.size with h' | h'
        · simp [h'] at hiun h1; rw [hiun] at h1; cases h1
        · simp [Array.getElem?_eq_none h'] at h1
      have hap := hfree j oj hoj hji hjun hnot
      have hex : m = .pure ∨ ex j ≠ true := by
        rcases hm with hm | ⟨n, hm⟩
        · exact .inl hm
        · refine .inr fun hxj => ?_
          have hl := J2F hdc n j i (hm j hxj hji) fun o ho e he hb => by rw [hoj] at ho; cases ho; exact hall e he hb
          rcases Nat.lt_or_ge i listed.size with h' | h'
          · simp [h'] at hiun hl; rw [hiun] at hl; cases hl
          · simp [Array.getElem?_eq_none h'] at hl
      have h2 := wpOp_put hQ hoj hap (fun cs b => hsel j oj cs b hoj) h1
      have hfree' : ∀ k ok, ops[k]? = some ok → k ≠ i → (listed.setIfInBounds j true).getD k true = false →
          (∀ e ∈ ok.after, Region.binds .any e = true → e.on ≠ i) → oi.apart ops ok = true := fun k ok hk hki hun hno => by
        refine hfree k ok hk hki ?_ hno
        by_cases hjk : j = k
        · subst hjk; exact hjun
        · rw [getD_set_ne true hjk] at hun; exact hun
      refine wpOp_mono (fun a' w' h3 => ?_) h2
      obtain ⟨ha', hsame, hrest⟩ := h3
      refine ⟨hsame, ?_⟩
      have hcls : m = .pure ∨ T w w' := by
        rcases hex with h | h
        · exact .inl h
        · exact .inr (hsame.resolve_right h)
      refine ih (listed.setIfInBounds j true) a' w' (hdc.next hj) hfree' (ready_mono hr (Ne.symm hji)) (hy.keep hT hap (fun cs b => hsel i oi cs b hi) hcls ha') ?_
      rw [Array.setIfInBounds_comm _ _ hji]
      exact hrest
end
section
variable (N0 : Nat) (A0 : List Nat) (T : World → World → Prop) (P : Program) (f n : Nat) (L : List Oper) (k : List Item) (R : Value → World → Prop)
def GoQA : List (Nat × MdA) → (Nat → Value) → World → List Nat → Prop
  | [], σ, w, A => ∀ w1 A1, Grw A w A1 w1 → A1.Perm A0 → Go1 P f n k σ w1 R
  | (i, m) :: s, σ, w, A => match nth L i with
    | none => False
    | some o => dOk n o.dst = true ∧ (match m with
      | .pure => (gd L σ o.guard = false ∧ GoQA s (putS σ o.dst undef) w A) ∨ (gd L σ o.guard = true ∧ ∃ v, (∀ w', OpV P o.op o.type σ w' v w') ∧ GoQA s (putS σ o.dst v) w A)
      | .stable => (gd L σ o.guard = false ∧ GoQA s (putS σ o.dst undef) w A) ∨ (gd L σ o.guard = true ∧ ∃ v, (∀ w', T w w' → OpV P o.op o.type σ w' v w') ∧ GoQA s (putS σ o.dst v) w A)
      | .loud => ∀ w1 A1, Grw A w A1 w1 → (gd L σ o.guard = false ∧ GoQA s (putS σ o.dst undef) w1 A1) ∨ (gd L σ o.guard = true ∧ ((∃ v w', OpV P o.op o.type σ w1 v w' ∧ T w1 w' ∧ Kp A1 w1 w' ∧ GoQA s (putS σ o.dst v) w' A1) ∨
          OpC P o.op o.type σ w1 fun v w' => T w1 w' ∧ Kp A1 w1 w' ∧ GoQA s (putS σ o.dst v) w' A1))
      | .last => ∀ w1 A1, Grw A w A1 w1 → (gd L σ o.guard = false ∧ GoQA s (putS σ o.dst undef) w1 A1) ∨ (gd L σ o.guard = true ∧ ((∃ v w', OpV P o.op o.type σ w1 v w' ∧ Kp A1 w1 w' ∧ GoQA s (putS σ o.dst v) w' A1) ∨
          OpC P o.op o.type σ w1 fun v w' => Kp A1 w1 w' ∧ GoQA s (putS σ o.dst v) w' A1))
      | .alloc => o.guard = none ∧ ∃ vf ef, AlE P o.op o.type σ vf ef ∧ ∀ w1 A1 b A2, Grw A w A1 w1 → A1.Perm (b :: A2) → b ∉ A2 → N0 ≤ b → (ef b).holds N0 w1 → GoQA s (putS σ o.dst (vf b)) w1 A2)
end
section
variable {N0 : Nat} {A0 : List Nat} {T : World → World → Prop} {ok : World → Prop} {P : Program} {f n : Nat} {L : List Oper} {k : List Item} {R : Value → World → Prop}
end
def alsOf : List (Nat × MdA) → List Nat
  | [] => []
  | (i, m) :: s => match m with
    | .alloc => i :: alsOf s
    | _ => alsOf s
def setAllB : Array Bool → List Nat → Array Bool
 | l, [] => l
 | l, j :: js => setAllB (l.setIfInBounds j true) js
def depB (ops : Array Oper) (j i : Nat) : Bool := match ops[j]? with
 | some o => o.after.any fun e => Region.binds .any e && Nat.beq e.on i
 | none => false
def apB (ops : Array Oper) (j i : Nat) : Bool := match ops[j]? with
  | some x => match ops[i]? with
    | some y => x.apart ops y
    | none => false
  | none => false
def isAl : MdA → Bool
 | .alloc => true
 | _ => false
def exA (s : List (Nat × MdA)) (j : Nat) : Bool := s.any fun p => Nat.beq p.1 j && (match p.2 with | .last => true | _ => false)
def scrA (ops : Array Oper) (dep : Nat) (s0 : List (Nat × MdA)) : List (Nat × MdA) → Array Bool → Bool
  | [], listed => (Region.ready .any ops listed).isEmpty
  | (i, m) :: s, listed =>
    (Region.ready .any ops listed).contains i &&
    (match m with
      | .pure => Region.free .any ops listed i
      | .stable => Region.free .any ops listed i && s0.all (fun p => (match p.2 with | .last => Nat.beq p.1 i || anc ops dep p.1 i | _ => true))
      | .loud => (Region.ready .any ops (setAllB listed (alsOf s))) == [i]
      | .last => (Region.ready .any ops (setAllB listed (alsOf s))) == [i] && exA s0 i
      | .alloc => (Region.ready .any ops (setAllB listed (alsOf s))) == [i]) &&
    ((alsOf s).all (fun j => !(Nat.beq j i) && (apB ops j i || (!(isAl m) && depB ops j i))) &&
    (s.all (fun p => !(Nat.beq p.1 i)) && scrA ops dep s0 s (listed.setIfInBounds i true)))
structure Itm where
 i : Nat
 m : MdA
 g : Option (Value × Nat)
def Itm.fg (x : Itm) : Nat × MdA := (x.i, x.m)
def cnt : List Itm → Nat
  | [] => 0
  | x :: s => match x.g with
    | none => cnt s + 1
    | some _ => cnt s
def bsI : List Itm → List Nat
  | [] => []
  | x :: s => match x.g with
    | none => bsI s
    | some p => p.2 :: bsI s
def dstOf (L : List Oper) (i : Nat) : Option Nat := (nth L i).bind (·.dst)
structure RelI (L : List Oper) (s : List Itm) (σ τ : Nat → Value) : Prop where
 got : ∀ x ∈ s, ∀ p, x.g = some p → ∀ d, dstOf L x.i = some d → τ d = p.1
 els : ∀ t, (∀ x ∈ s, x.g.isSome = true → dstOf L x.i ≠ some t) → τ t = σ t
structure Apt (L : List Oper) (i j : Nat) : Prop where
 h : ∃ oi oj, nth L i = some oi ∧ nth L j = some oj ∧ (∀ d, oi.dst = some d → d ∉ oj.looksAt L.toArray) ∧ (∀ d, oi.dst = some d → oj.dst ≠ some d) ∧ (∀ d, oj.dst = some d → d ∉ oi.looksAt L.toArray)
theorem Apt.of {L : List Oper} {i j : Nat} (h : apB L.toArray i j = true) : Apt L i j := by
  unfold apB at h
  cases hi : L.toArray[i]? with
  | none => simp [hi] at h
  | some oi =>
    simp only [hi] at h
    cases hj : L.toArray[j]? with
    | none => simp [hj] at h
    | some oj =>
      simp only [hj] at h
      obtain ⟨h1, h2, h3⟩ := Oper.apart_spec h
      exact ⟨oi, oj, by rw [J31]; simpa using hi, by rw [J31]; simpa using hj, h1, h2, h3⟩
theorem Apt.symm {L : List Oper} {i j : Nat} (h : Apt L i j) : Apt L j i := by
 obtain ⟨oi, oj, h1, h2, h3, h4, h5⟩ := h.h
 exact ⟨oj, oi, h2, h1, h5, fun d hd he => h4 d he hd, h3⟩
theorem Apt.dst {L : List Oper} {i j : Nat} (h : Apt L i j) {d e : Nat} (hi : dstOf L i = some d) (hj : dstOf L j = some e) : d ≠ e := by
 obtain ⟨a, b, h1, h2, h3, h4, h5⟩ := h.h
 intro he
 subst he
 exact h4 d (by simpa [dstOf, h1] using hi) (by simpa [dstOf, h2] using hj)
section
variable {N0 : Nat} {A0 : List Nat} {T : World → World → Prop} {ok : World → Prop} {P : Program} {f n : Nat} {L : List Oper} {k : List Item} {R : Value → World → Prop}
structure MidA (N0 : Nat) (A0 : List Nat) (T : World → World → Prop) (ok : World → Prop) (P : Program) (f n : Nat) (L : List Oper) (k : List Item) (R : Value → World → Prop) (dep : Nat) (s0 : List (Nat × MdA)) (s : List Itm) (lS l : Array Bool) (σ τ : Nat → Value) (a : Act) (w : World) (A : List Nat) : Prop where
 scr : scrA L.toArray dep s0 (s.map Itm.fg) lS = true
 sS : lS.size = L.toArray.size
 sl : l.size = L.toArray.size
 hl : ∀ j, l.getD j false = true ↔ (lS.getD j false = true ∨ ∃ x ∈ s, x.i = j ∧ x.g.isSome = true)
 dc : DC L.toArray l
 fits : Fits n a τ
 rel : RelI L s σ τ
 got : ∀ x ∈ s, ∀ v b, x.g = some (v, b) → x.m = .alloc ∧ N0 ≤ b ∧ b < w.heap.size ∧ ∃ o w0 w0', nth L x.i = some o ∧ OpV P o.op o.type σ w0 v w0' ∧ b = w0.heap.size ∧ w.heap[b]? = w0'.heap[b]?
 prm : A.Perm (bsI s ++ A0)
 nd : (bsI s).Nodup
 a0 : ∀ b ∈ A0, b < N0
 lq : ok w
 n0 : N0 ≤ w.heap.size
 go : GoQA N0 A0 T P f n L k R (s.map Itm.fg) σ w A
theorem J5c {b : Nat} : ∀ {s : List Itm}, b ∈ bsI s → ∃ x ∈ s, ∃ v, x.g = some (v, b)
  | x :: s, h => by
    cases hx : x.g with
    | none =>
      simp only [bsI, hx] at h
      obtain ⟨y, h1, h2⟩ := J5c h
      exact ⟨y, List.mem_cons_of_mem _ h1, h2⟩
    | some p =>
      simp only [bsI, hx] at h
      rcases List.mem_cons.1 h with rfl | h
      · exact ⟨x, by simp, p.1, hx⟩
      · obtain ⟨y, h1, h2⟩ := J5c h
        exact ⟨y, List.mem_cons_of_mem _ h1, h2⟩
variable {dep : Nat} {s0 : List (Nat × MdA)} {s : List Itm} {x : Itm} {lS l : Array Bool} {σ τ : Nat → Value} {a : Act} {w : World} {A : List Nat}
theorem MidA.alt (h : MidA N0 A0 T ok P f n L k R dep s0 s lS l σ τ a w A) : ∀ x ∈ A, x < w.heap.size := by
 intro x hx
 rcases List.mem_append.1 (h.prm.mem_iff.1 hx) with hx | hx
 ·obtain ⟨y, hy, v, hv⟩ := J5c hx
  exact (h.got y hy v x hv).2.2.1
 ·exact Nat.lt_of_lt_of_le (h.a0 x hx) h.n0
end
section
variable {N0 : Nat} {A0 : List Nat} {T : World → World → Prop} {P : Program} {f n : Nat} {L : List Oper} {k : List Item} {R : Value → World → Prop} {s : List (Nat × MdA)} {σ : Nat → Value} {w w' : World} {A : List Nat} {i : Nat}
def GoAt (N0 : Nat) (A0 : List Nat) (T : World → World → Prop) (P : Program) (f n : Nat) (L : List Oper) (k : List Item) (R : Value → World → Prop) (c : Bool) (o : Oper) (s : List (Nat × MdA)) (σ : Nat → Value) (w : World) (A : List Nat) : Prop :=
 (gd L σ o.guard = false ∧ GoQA N0 A0 T P f n L k R s (putS σ o.dst undef) w A) ∨ (gd L σ o.guard = true ∧ ((∃ v w', OpV P o.op o.type σ w v w' ∧ (c = true → T w w') ∧ Kp A w w' ∧ GoQA N0 A0 T P f n L k R s (putS σ o.dst v) w' A) ∨
  OpC P o.op o.type σ w fun v w' => (c = true → T w w') ∧ Kp A w w' ∧ GoQA N0 A0 T P f n L k R s (putS σ o.dst v) w' A))
theorem GoQA.nil (h : ∀ w1 A1, Grw A w A1 w1 → A1.Perm A0 → Go1 P f n k σ w1 R) : GoQA N0 A0 T P f n L k R [] σ w A := h
variable {d : Option Nat} {op : Op} {ty : TypeId} {pos : String} {aft : Array Edge} {g : Option (Nat × Bool)}
theorem GoQA.pure {v : Value} (hi : nth L i = some ⟨d, op, ty, pos, aft, g⟩) (hv : ∀ w', OpV P op ty σ w' v w') (hg : gd L σ g = true) (hd : dOk n d = true)
  (h : GoQA N0 A0 T P f n L k R s (putS σ d v) w A) : GoQA N0 A0 T P f n L k R ((i, .pure) :: s) σ w A := by
 simp only [GoQA, hi]; exact ⟨hd, .inr ⟨hg, v, hv, h⟩⟩
theorem GoQA.stable {v : Value} (hi : nth L i = some ⟨d, op, ty, pos, aft, g⟩) (hv : ∀ w', T w w' → OpV P op ty σ w' v w') (hg : gd L σ g = true) (hd : dOk n d = true)
  (h : GoQA N0 A0 T P f n L k R s (putS σ d v) w A) : GoQA N0 A0 T P f n L k R ((i, .stable) :: s) σ w A := by
 simp only [GoQA, hi]; exact ⟨hd, .inr ⟨hg, v, hv, h⟩⟩
theorem GoAt.step {c : Bool} {v : Value} (hv : OpV P op ty σ w v w') (hc : c = true → T w w') (hk : Kp A w w') (hg : gd L σ g = true)
  (h : GoQA N0 A0 T P f n L k R s (putS σ d v) w' A) : GoAt N0 A0 T P f n L k R c ⟨d, op, ty, pos, aft, g⟩ s σ w A := .inr ⟨hg, .inl ⟨v, w', hv, hc, hk, h⟩⟩
theorem GoAt.pass {c : Bool} (hg : gd L σ g = false) (h : GoQA N0 A0 T P f n L k R s (putS σ d undef) w A) : GoAt N0 A0 T P f n L k R c ⟨d, op, ty, pos, aft, g⟩ s σ w A := .inl ⟨hg, h⟩
theorem GoAt.call {c : Bool} {R1 : Value → World → Prop} (hcl : OpC P op ty σ w R1) (hs : ∀ v w', R1 v w' → (c = true → T w w') ∧ Kp A w w') (hg : gd L σ g = true)
  (h : ∀ v w', R1 v w' → GoQA N0 A0 T P f n L k R s (putS σ d v) w' A) : GoAt N0 A0 T P f n L k R c ⟨d, op, ty, pos, aft, g⟩ s σ w A := by
 obtain ⟨fc, args, hx, hcall⟩ := hcl
 exact .inr ⟨hg, .inr ⟨fc, args, hx, CallsV.mono hcall fun v w' h' => ⟨(hs v w' h').1, (hs v w' h').2, h v w' h'⟩⟩⟩
theorem GoQA.alloc {vf : Nat → Value} {ef : Nat → Ent} (hi : nth L i = some ⟨d, op, ty, pos, aft, none⟩) (hd : dOk n d = true) (ha : AlE P op ty σ vf ef)
  (h : ∀ w1 A1 b A2, Grw A w A1 w1 → A1.Perm (b :: A2) → b ∉ A2 → N0 ≤ b → (ef b).holds N0 w1 → GoQA N0 A0 T P f n L k R s (putS σ d (vf b)) w1 A2) : GoQA N0 A0 T P f n L k R ((i, .alloc) :: s) σ w A := by
 simp only [GoQA, hi]; exact ⟨hd, trivial, vf, ef, ha, h⟩
end
section
variable {P : Program} {σ : Nat → Value} {t e ty : TypeId} {x y : Operand}
theorem AlE.of {op : Op} {vf : Nat → Value} {ef : Nat → Ent} (hf : ∀ b, (ef b).fp = [b]) (h : ∀ w, ∃ w', OpV P op ty σ w (vf w.heap.size) w' ∧ Same w w' ∧ (ef w.heap.size).holds w.heap.size w' ∧ w.heap.size < w'.heap.size) : AlE P op ty σ vf ef :=
 ⟨hf, fun w => let ⟨w', h1, h2, h3, h4⟩ := h w; ⟨w', h1, h2, h4, h3⟩⟩
end
section
variable {n0 : Nat} {w : World} {E : List Ent} {A : List Nat} {Lq : List (Option Addr)}
theorem LqOk.blk {b i : Nat} {o : Obj} (j : Nat) (hO : Owns n0 w E A) (hj : E[j]? = some (.blk b o)) (h : LqOk Lq w) : LqOk (some ⟨b, i, none⟩ :: Lq) w := fun q hq a ha => by
 rcases List.mem_cons.1 hq with rfl | hq
 ·cases ha
  exact (Ent.lt (hO.at_ _ (List.mem_of_getElem? hj)) b (by simp [Ent.fp])).2
 ·exact h q hq a ha
theorem LqOk.row {e : TypeId} {sz : Nat} {p : Option Addr} {n c m : Nat} {vs : List Value} (j : Nat) (hO : Owns n0 w E A) (hj : E[j]? = some (.row e sz p n c vs)) (h : LqOk Lq w) : LqOk (padd p m :: Lq) w := fun q hq a ha => by
  rcases List.mem_cons.1 hq with rfl | hq
  · cases p with
    | none => simp [padd] at ha
    | some a0 =>
      simp only [padd, Option.map_some, Option.some.injEq] at ha
      have := (Ent.lt (hO.at_ _ (List.mem_of_getElem? hj)) a0.block (by simp [Ent.fp])).2
      subst ha
      unfold Addr.add
      split <;> exact this
  · exact h q hq a ha
end
end Sg
namespace Sg
open Go Go.RowKit
section
variable {w w' : World} {B B' : List Nat} {Lq : List (Option Addr)}
end
end Sg
namespace Sg
open Go Go.RowKit
def CSv (Lq : List (Option Addr)) (w w' : World) : Prop := ∀ q ∈ Lq, ∀ a, q = some a → ∀ v, w.cell? a = some v → w'.cell? a = some v
theorem World.cell?_lt {w : World} {a : Addr} {v : Value} (h : w.cell? a = some v) : a.block < w.heap.size := by
 unfold World.cell? at h
 cases hb : w.heap[a.block]? with
 | none => simp [hb] at h
 | some o => exact (Array.getElem?_eq_some_iff.1 hb).1
theorem CSv.same {Lq : List (Option Addr)} {w w' : World} (h : Same w w') : CSv Lq w w' := fun _ _ a _ _ hv =>
 (World.cell?_of_block (w := w) (w' := w') (h.block a.block (World.cell?_lt hv))).trans hv
theorem CSv.tr (Lq : List (Option Addr)) : TR (CSv Lq) (fun _ => True) :=
 ⟨⟨fun _ _ _ _ _ _ hv => hv, fun h k q hq a ha v hv => k q hq a ha v (h q hq a ha v hv)⟩, fun _ h => CSv.same h, fun _ _ => trivial⟩
theorem CSv.nil (w w' : World) : CSv [] w w' := fun _ h => nomatch h
theorem CSv.cons {q : Option Addr} {Lq : List (Option Addr)} {w w' : World} (h : ∀ a, q = some a → w'.cell? a = w.cell? a) (k : CSv Lq w w') : CSv (q :: Lq) w w' := fun x hx a ha v hv => by
 rcases List.mem_cons.1 hx with rfl | hx
 ·exact (h a ha).trans hv
 ·exact k x hx a ha v hv
theorem loadV {P : Program} {σ : Nat → Value} {w : World} {t ty : TypeId} {x : Operand} {Lq : List (Option Addr)} {q : Option Addr} {v : Value} {d : TypeDesc} (hq : q ∈ Lq) (hs : q.isSome = true) (hc : ∀ a, q = some a → w.cell? a = some v) (ht : P.underlying t = some d) (hd : scB d = true) (hx : ev σ x = .pointer q) (w' : World) (hw : CSv Lq w w') : OpV P (.load t x) ty σ w' v w' := by
 obtain ⟨a, rfl⟩ := Option.isSome_iff_exists.1 hs
 exact J2c ht hd hx (hw _ hq a rfl v (hc a rfl))
end Sg
