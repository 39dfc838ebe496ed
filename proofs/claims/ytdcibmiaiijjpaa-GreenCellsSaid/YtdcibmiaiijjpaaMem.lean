/- -/
import Derived.Test.YtdcibmiaiijjpaaOps
import Derived.Below
namespace Sg
open Go Go.RowKit
set_option linter.unusedVariables false
set_option linter.unusedSimpArgs false
theorem eS {α : Type _} {a : α} {l : List α} {i : Nat} : (a :: l).eraseIdx (i + 1) = a :: l.eraseIdx i := rfl
theorem eZ {α : Type _} {a : α} {l : List α} : (a :: l).eraseIdx 0 = l := rfl
theorem sS {α : Type _} {a b : α} {l : List α} {i : Nat} : (a :: l).set (i + 1) b = a :: l.set i b := rfl
theorem sZ {α : Type _} {a b : α} {l : List α} : (a :: l).set 0 b = b :: l := rfl
structure Ch (A : List Nat) (w : World) (A' : List Nat) (w' : World) : Prop where
 size : w.heap.size ≤ w'.heap.size
 keep : ∀ b, b < w.heap.size → b ∉ A → w'.heap[b]? = w.heap[b]? ∧ b ∉ A'
theorem Ch.refl (A : List Nat) (w : World) : Ch A w A w := ⟨Nat.le_refl _, fun _ _ h => ⟨rfl, h⟩⟩
theorem Ch.trans {A B C : List Nat} {u v w : World} (h : Ch A u B v) (k : Ch B v C w) : Ch A u C w :=
 ⟨Nat.le_trans h.size k.size, fun b hb ha => let ⟨h1, h2⟩ := h.keep b hb ha; let ⟨k1, k2⟩ := k.keep b (Nat.lt_of_lt_of_le hb h.size) h2; ⟨k1.trans h1, k2⟩⟩
theorem Same.ch {w w' : World} (h : Same w w') (A : List Nat) : Ch A w A w' := ⟨h.size, fun b hb ha => ⟨h.block b hb, ha⟩⟩
def cel (w : World) (a : Addr) (i : Nat) : Option Value := w.cell? ⟨a.block, a.off + i, none⟩
theorem J7p {A A' : List Nat} {w w' : World} (h : Ch A w A' w') {a : Addr} (hb : a.block < w.heap.size) (ha : a.block ∉ A) (i : Nat) : cel w' a i = cel w a i :=
 World.cell?_of_block (w := w) (w' := w') (h.keep a.block hb ha).1
structure Rp (α : Type) where
 sz : Nat
 pos : 0 < sz
 R : List Nat → World → (Nat → Option Value) → α → Prop
 ch : ∀ {A A' : List Nat} {w w' : World} {cs : Nat → Option Value} {x : α}, Ch A w A' w' → R A w cs x → R A' w' cs x
 ext : ∀ {A : List Nat} {w : World} {cs cs' : Nat → Option Value} {x : α}, (∀ i, i < sz → cs' i = cs i) → R A w cs x → R A w cs' x
 one : ∀ {A : List Nat} {w : World} {cs : Nat → Option Value} {x : α}, R A w cs x → ∀ i, i < sz → ∃ v, cs i = some v ∧ v.oneCell' = true
structure ISl {α : Type} (r : Rp α) (A : List Nat) (w : World) (p : Option Addr) (c : Nat) (xs : List α) : Prop where
 cap : xs.length ≤ c
 bd : xs.length ≤ mx
 nil : p = none → c = 0
 at_ : ∀ a, p = some a → ∀ k (h : k < xs.length), a.spot = none ∧ a.block < w.heap.size ∧ a.block ∉ A ∧ r.R A w (fun i => cel w a (k * r.sz + i)) xs[k]
theorem ISl.ch {α : Type} {r : Rp α} {A A' : List Nat} {w w' : World} {p : Option Addr} {c : Nat} {xs : List α} (h : ISl r A w p c xs) (hc : Ch A w A' w') : ISl r A' w' p c xs := by
 refine ⟨h.cap, h.bd, h.nil, fun a ha k hk => ?_⟩
 obtain ⟨h1, h2, h3, h4⟩ := h.at_ a ha k hk
 exact ⟨h1, Nat.lt_of_lt_of_le h2 hc.size, (hc.keep _ h2 h3).2, r.ext (fun i _ => J7p hc h2 h3 _) (r.ch hc h4)⟩
theorem ISl.same {α : Type} {r : Rp α} {A : List Nat} {w w' : World} {p : Option Addr} {c : Nat} {xs : List α} (h : ISl r A w p c xs) (hs : Same w w') : ISl r A w' p c xs := h.ch (hs.ch A)
theorem ISl.null {α : Type} (r : Rp α) (A : List Nat) (w : World) : ISl r A w none 0 [] := ⟨Nat.le_refl _, Nat.zero_le _, fun _ => rfl, fun _ h => nomatch h⟩
theorem ISl.some_ {α : Type} {r : Rp α} {A : List Nat} {w : World} {p : Option Addr} {c : Nat} {xs : List α} (h : ISl r A w p c xs) {i : Int} (h0 : 0 ≤ i) (h1 : i < xs.length) : p.isSome = true := by
 cases p with
 | some a => rfl
 | none => have := h.cap; have := h.nil rfl; omega
def Rp.int (k : IntKind) : Rp Int where
  sz := 1
  pos := by decide
  R _ _ cs x := cs 0 = some (.int k x)
  ch _ h := h
  ext e h := by rw [e 0 (by decide)]; exact h
  one h i hi := ⟨_, (by obtain rfl : i = 0 := by omega
                        exact h), rfl⟩
def Rp.bool : Rp Bool where
  sz := 1
  pos := by decide
  R _ _ cs x := cs 0 = some (.bool x)
  ch _ h := h
  ext e h := by rw [e 0 (by decide)]; exact h
  one h i hi := ⟨_, (by obtain rfl : i = 0 := by omega
                        exact h), rfl⟩
def Rp.sl {α : Type} (r : Rp α) : Rp (List α) where
 sz := 1
 pos := by decide
 R A w cs xs := ∃ p c, cs 0 = some (.slice p xs.length c) ∧ ISl r A w p c xs
 ch hc h := let ⟨p, c, h1, h2⟩ := h; ⟨p, c, h1, h2.ch hc⟩
 ext e h := let ⟨p, c, h1, h2⟩ := h; ⟨p, c, by rw [e 0 (by decide)]; exact h1, h2⟩
 one h i hi := by
  obtain ⟨p, c, h1, _⟩ := h
  obtain rfl : i = 0 := by omega
  exact ⟨_, h1, rfl⟩
structure Els {α : Type} (r : Rp α) (A : List Nat) (w : World) (vs : List Value) (xs : List α) : Prop where
 len : vs.length = xs.length * r.sz
 bd : xs.length ≤ mx
 at_ : ∀ k (h : k < xs.length), r.R A w (fun i => vs[k * r.sz + i]?) xs[k]
theorem Els.ch {α : Type} {r : Rp α} {A A' : List Nat} {w w' : World} {vs : List Value} {xs : List α} (h : Els r A w vs xs) (hc : Ch A w A' w') : Els r A' w' vs xs :=
 ⟨h.len, h.bd, fun k hk => r.ch hc (h.at_ k hk)⟩
theorem Els.nil {α : Type} (r : Rp α) (A : List Nat) (w : World) : Els r A w [] ([] : List α) := ⟨by simp, Nat.zero_le _, fun _ h => by simp at h⟩
structure AnyE where
 F : List Nat
 H : Nat → World → Prop
 lt : ∀ {n0 : Nat} {w : World}, H n0 w → ∀ b ∈ F, n0 ≤ b ∧ b < w.heap.size
 keep : ∀ {n0 : Nat} {w w' : World}, H n0 w → (∀ b ∈ F, w'.heap[b]? = w.heap[b]?) → H n0 w'
 base : ∀ {n0 n1 : Nat} {w : World}, n1 ≤ n0 → H n0 w → H n1 w
inductive Ent where
 | row (e : TypeId) (size : Nat) (p : Option Addr) (n c : Nat) (vs : List Value)
 | blk (b : Nat) (o : Obj)
 | any (a : AnyE)
def Ent.fp : Ent → List Nat
 | .row _ _ p _ _ _ => match p with | some a => [a.block] | none => []
 | .blk b _ => [b]
 | .any a => a.F
def Ent.holds (n0 : Nat) (w : World) : Ent → Prop
 | .row e size p n c vs => w.ownsRow n0 e size (.slice p n c) n vs
 | .blk b o => n0 ≤ b ∧ w.heap[b]? = some o
 | .any a => a.H n0 w
def bl (E : List Ent) : List Nat := E.flatMap Ent.fp
structure Owns (n0 : Nat) (w : World) (E : List Ent) (A : List Nat) : Prop where
 le : n0 ≤ w.heap.size
 bd : ∀ b ∈ A, b < w.heap.size
 nd : (bl E).Nodup
 out : ∀ b ∈ bl E, b ∉ A
 at_ : ∀ e ∈ E, e.holds n0 w
theorem Ent.lt {n0 : Nat} {w : World} {e : Ent} (h : e.holds n0 w) : ∀ b ∈ e.fp, n0 ≤ b ∧ b < w.heap.size := by
  intro b hb
  cases e with
  | row e size p n c vs =>
    cases p with
    | none => simp [Ent.fp] at hb
    | some a =>
      simp only [Ent.fp, List.mem_singleton] at hb
      subst hb
      exact World.ownsRow.lt h a.block rfl
  | blk b' o =>
    simp only [Ent.fp, List.mem_singleton] at hb
    subst hb
    exact ⟨h.1, (Array.getElem?_eq_some_iff.1 h.2).1⟩
  | any a => exact a.lt h b hb
theorem Ent.keep {n0 : Nat} {w w' : World} {e : Ent} (h : e.holds n0 w) (hk : ∀ b ∈ e.fp, w'.heap[b]? = w.heap[b]?) : e.holds n0 w' := by
  cases e with
  | row e size p n c vs =>
    refine ⟨h.1, ?_⟩
    rcases h.2 with hn | ⟨g, cap, cur, hv, hb, hg, rest⟩
    · exact .inl hn
    · refine .inr ⟨g, cap, cur, hv, hb, ?_, rest⟩
      cases hv
      rw [hk g (by simp [Ent.fp])]; exact hg
  | blk b o => exact ⟨h.1, by rw [hk b (by simp [Ent.fp])]; exact h.2⟩
  | any a => exact a.keep h hk
theorem Ent.base {n0 n1 : Nat} {w : World} {e : Ent} (hn : n1 ≤ n0) (h : e.holds n0 w) : e.holds n1 w := by
  cases e with
  | row e size p n c vs =>
    refine ⟨h.1, ?_⟩
    rcases h.2 with hn | ⟨g, cap, cur, hv, hb, rest⟩
    · exact .inl hn
    · exact .inr ⟨g, cap, cur, hv, by omega, rest⟩
  | blk b o => exact ⟨by have := h.1; omega, h.2⟩
  | any a => exact a.base hn h
theorem J39 {E : List Ent} {b : Nat} : b ∈ bl E ↔ ∃ e ∈ E, b ∈ e.fp := by simp [bl, List.mem_flatMap]
theorem Owns.lt {n0 : Nat} {w : World} {E : List Ent} {A : List Nat} (h : Owns n0 w E A) : ∀ b ∈ bl E ++ A, b < w.heap.size := by
 intro b hb
 rcases List.mem_append.1 hb with hb | hb
 ·obtain ⟨e, he, hbe⟩ := J39.1 hb
  exact (Ent.lt (h.at_ e he) b hbe).2
 ·exact h.bd b hb
theorem Owns.ge {n0 : Nat} {w : World} {E : List Ent} {A : List Nat} (h : Owns n0 w E A) : ∀ b ∈ bl E, n0 ≤ b := by
 intro b hb
 obtain ⟨e, he, hbe⟩ := J39.1 hb
 exact (Ent.lt (h.at_ e he) b hbe).1
theorem Owns.start {w : World} {A : List Nat} (h : ∀ b ∈ A, b < w.heap.size) : Owns w.heap.size w [] A := ⟨Nat.le_refl _, h, List.nodup_nil, fun _ h => by simp [bl] at h, fun _ h => by simp at h⟩
structure Fr (B : List Nat) (w : World) (B' : List Nat) (w' : World) : Prop where
 os : w'.os = w.os
 tape : w'.tape = w.tape
 output : w'.output = w.output
 ch : Ch B w B' w'
theorem Fr.refl (B : List Nat) (w : World) : Fr B w B w := ⟨rfl, rfl, rfl, Ch.refl B w⟩
theorem Fr.trans {A B C : List Nat} {u v w : World} (h : Fr A u B v) (k : Fr B v C w) : Fr A u C w := ⟨k.os.trans h.os, k.tape.trans h.tape, k.output.trans h.output, h.ch.trans k.ch⟩
theorem Fr.same {B : List Nat} {w w' : World} (h : Fr [] w B w') : Same w w' := ⟨h.os, h.tape, h.output, h.ch.size, fun k hk => (h.ch.keep k hk (by simp)).1⟩
theorem Same.fr {w w' : World} (h : Same w w') (B : List Nat) : Fr B w B w' := ⟨h.os, h.tape, h.output, h.ch B⟩
structure Stp (n0 : Nat) (A : List Nat) (w : World) (E : List Ent) (w' : World) (E' : List Ent) : Prop where
 own : Owns n0 w' E' A
 fr : Fr (bl E) w (bl E') w'
theorem Ch.app {B B' : List Nat} {w w' : World} (h : Ch B w B' w') (A : List Nat) : Ch (B ++ A) w (B' ++ A) w' :=
 ⟨h.size, fun b hb hnb => by
  simp only [List.mem_append, not_or] at hnb ⊢
  exact ⟨(h.keep b hb hnb.1).1, (h.keep b hb hnb.1).2, hnb.2⟩⟩
theorem Stp.ch {n0 : Nat} {A : List Nat} {w w' : World} {E E' : List Ent} (h : Stp n0 A w E w' E') : Ch (bl E ++ A) w (bl E' ++ A) w' := h.fr.ch.app A
theorem Stp.same {n0 : Nat} {A : List Nat} {w w' : World} {E : List Ent} (h : Owns n0 w E A) (hs : Same w w') : Stp n0 A w E w' E := by
 refine ⟨⟨Nat.le_trans h.le hs.size, fun b hb => Nat.lt_of_lt_of_le (h.bd b hb) hs.size, h.nd, h.out, fun e he => Ent.keep (h.at_ e he) fun b hb => hs.block b (Ent.lt (h.at_ e he) b hb).2⟩, hs.fr _⟩
theorem Stp.turn {n0 : Nat} {A : List Nat} {w w' : World} {E : List Ent} {i : Nat} {e e' : Ent} (h : Owns n0 w E A) (hi : E[i]? = some e)
    (hos : w'.os = w.os ∧ w'.tape = w.tape ∧ w'.output = w.output) (hsz : w.heap.size ≤ w'.heap.size)
    (hk : ∀ b, b < w.heap.size → b ∉ e.fp → w'.heap[b]? = w.heap[b]?) (hnd : e'.fp.Nodup) (hfp : ∀ b ∈ e'.fp, b ∈ e.fp ∨ w.heap.size ≤ b) (hh : e'.holds n0 w') :
    Stp n0 A w E w' (E.set i e') := by
  have hil : i < E.length := (List.getElem?_eq_some_iff.1 hi).1
  have hie : E[i] = e := (List.getElem?_eq_some_iff.1 hi).2
  have hE : E = E.take i ++ e :: E.drop (i + 1) := by rw [← hie]; simp
  have hE' : E.set i e' = E.take i ++ e' :: E.drop (i + 1) := by rw [List.set_eq_take_append_cons_drop, if_pos hil]
  have hb1 : bl E = bl (E.take i) ++ (e.fp ++ bl (E.drop (i + 1))) := by conv => lhs; rw [hE]
                                                                         simp [bl]
  have hb2 : bl (E.set i e') = bl (E.take i) ++ (e'.fp ++ bl (E.drop (i + 1))) := by rw [hE']; simp [bl]
  have hnd0 := h.nd
  rw [hb1] at hnd0
  obtain ⟨n1, n2, n3⟩ := List.nodup_append.1 hnd0
  obtain ⟨n4, n5, n6⟩ := List.nodup_append.1 n2
  have hlt := h.lt
  rw [hb1] at hlt
  have hmem : e ∈ E := List.mem_of_getElem? hi
  have hne : ∀ e1 ∈ E.take i ++ E.drop (i + 1), ∀ b ∈ e1.fp, b < w.heap.size ∧ b ∉ e.fp := by
    intro e1 h1 b hb
    rcases List.mem_append.1 h1 with h1 | h1
    · have hb' : b ∈ bl (E.take i) := J39.2 ⟨e1, h1, hb⟩
      exact ⟨hlt b (by simp [hb']), fun hx => n3 b hb' b (by simp [hx]) rfl⟩
    · have hb' : b ∈ bl (E.drop (i + 1)) := J39.2 ⟨e1, h1, hb⟩
      exact ⟨hlt b (by simp [hb']), fun hx => n6 b hx b hb' rfl⟩
  have hfpA : ∀ b ∈ e.fp, b ∉ A := fun b hb => h.out b (by rw [hb1]; simp [hb])
  refine ⟨⟨Nat.le_trans h.le hsz, fun b hb => Nat.lt_of_lt_of_le (h.bd b hb) hsz, ?_, ?_, ?_⟩, ⟨hos.1, hos.2.1, hos.2.2, ⟨hsz, ?_⟩⟩⟩
  · rw [hb2]
    refine List.nodup_append.2 ⟨n1, List.nodup_append.2 ⟨hnd, n5, ?_⟩, ?_⟩
    · intro a ha b hb hab
      subst hab
      rcases hfp a ha with hx | hx
      · exact n6 a hx a hb rfl
      · exact absurd (hlt a (by simp [hb])) (by omega)
    · intro a ha b hb hab
      subst hab
      rcases List.mem_append.1 hb with hb | hb
      · rcases hfp a hb with hx | hx
        · exact n3 a ha a (by simp [hx]) rfl
        · exact absurd (hlt a (by simp [ha])) (by omega)
      · exact n3 a ha a (by simp [hb]) rfl
  · intro b hb
    rw [hb2] at hb
    simp only [List.mem_append] at hb
    rcases hb with hb | hb | hb
    · exact h.out b (by rw [hb1]; simp [hb])
    · rcases hfp b hb with hx | hx
      · exact hfpA b hx
      · exact fun hA => absurd (h.bd b hA) (by omega)
    · exact h.out b (by rw [hb1]; simp [hb])
  · intro e1 he1
    rw [hE'] at he1
    simp only [List.mem_append, List.mem_cons] at he1
    rcases he1 with h1 | rfl | h1
    · exact Ent.keep (h.at_ e1 (by rw [hE]; simp [h1])) fun b hb => hk b (hne e1 (by simp [h1]) b hb).1 (hne e1 (by simp [h1]) b hb).2
    · exact hh
    · exact Ent.keep (h.at_ e1 (by rw [hE]; simp [h1])) fun b hb => hk b (hne e1 (by simp [h1]) b hb).1 (hne e1 (by simp [h1]) b hb).2
  · intro b hb hnb
    rw [hb1] at hnb
    simp only [List.mem_append, not_or] at hnb
    refine ⟨hk b hb hnb.2.1, ?_⟩
    rw [hb2]
    simp only [List.mem_append, not_or]
    refine ⟨hnb.1, fun hx => ?_, hnb.2.2⟩
    rcases hfp b hx with hy | hy
    · exact hnb.2.1 hy
    · omega
theorem Stp.new {n0 : Nat} {A : List Nat} {w w' : World} {E : List Ent} {e' : Ent} (h : Owns n0 w E A) (hs : Same w w') (hnd : e'.fp.Nodup) (hfp : ∀ b ∈ e'.fp, w.heap.size ≤ b) (hh : e'.holds n0 w') :
  Stp n0 A w E w' (e' :: E) := by
 have hb : bl (e' :: E) = e'.fp ++ bl E := by simp [bl]
 have hlt := h.lt
 refine ⟨⟨Nat.le_trans h.le hs.size, fun b hb => Nat.lt_of_lt_of_le (h.bd b hb) hs.size, ?_, ?_, ?_⟩, ⟨hs.os, hs.tape, hs.output, ⟨hs.size, fun b hbl hnb => ⟨hs.block b hbl, ?_⟩⟩⟩⟩
 ·rw [hb]
  refine List.nodup_append.2 ⟨hnd, h.nd, fun a ha b hb hab => ?_⟩
  subst hab
  exact absurd (hlt a (by simp [hb])) (by have := hfp a ha; omega)
 ·intro b hx
  rw [hb] at hx
  rcases List.mem_append.1 hx with hx | hx
  ·exact fun hA => absurd (h.bd b hA) (by have := hfp b hx; omega)
  ·exact h.out b hx
 ·intro e1 he1
  rcases List.mem_cons.1 he1 with rfl | he1
  ·exact hh
  ·exact Ent.keep (h.at_ e1 he1) fun b hb => hs.block b (Ent.lt (h.at_ e1 he1) b hb).2
 ·rw [hb]
  simp only [List.mem_append, not_or] at hnb ⊢
  exact ⟨fun hx => by have := hfp b hx; omega, hnb⟩
theorem J60 {l l' : List Ent} (h : l.Sublist l') : (bl l).Sublist (bl l') := by
 induction h with
 | slnil => exact List.Sublist.refl _
 | cons a _ ih => simp only [bl, List.flatMap_cons] at *; exact ih.trans (List.sublist_append_right _ _)
 | cons_cons a _ ih => simp only [bl, List.flatMap_cons] at *; exact (List.Sublist.refl _).append ih
theorem Owns.drop {n0 : Nat} {A : List Nat} {w : World} {E : List Ent} (i : Nat) (h : Owns n0 w E A) : Owns n0 w (E.eraseIdx i) A := by
 have hsub : (E.eraseIdx i).Sublist E := List.eraseIdx_sublist E i
 have hbl : (bl (E.eraseIdx i)).Sublist (bl E) := J60 hsub
 exact ⟨h.le, h.bd, h.nd.sublist hbl, fun b hb => h.out b (hbl.subset hb), fun e he => h.at_ e (hsub.subset he)⟩
theorem Owns.J0W (w : World) (E : List Ent) (i : Nat) : Fr (bl E) w (bl (E.eraseIdx i)) w :=
 ⟨rfl, rfl, rfl, ⟨Nat.le_refl _, fun b _ hb => ⟨rfl, fun hx => hb ((J60 (List.eraseIdx_sublist E i)).subset hx)⟩⟩⟩
theorem Owns.J5v {A : List Nat} (w : World) (E : List Ent) (i : Nat) : Ch (bl E ++ A) w (bl (E.eraseIdx i) ++ A) w := (Owns.J0W w E i).ch.app A
theorem Owns.perm {n0 : Nat} {A : List Nat} {w : World} {E E' : List Ent} (h : Owns n0 w E A) (hp : E.Perm E') : Owns n0 w E' A := by
 have hb : (bl E).Perm (bl E') := List.Perm.flatMap_right _ hp
 exact ⟨h.le, h.bd, (hb.nodup_iff).1 h.nd, fun b hx => h.out b (hb.mem_iff.2 hx), fun e he => h.at_ e (hp.mem_iff.2 he)⟩
theorem Fr.perm (w : World) {E E' : List Ent} (hp : E.Perm E') : Fr (bl E) w (bl E') w :=
 ⟨rfl, rfl, rfl, ⟨Nat.le_refl _, fun b _ hb => ⟨rfl, fun hx => hb ((List.Perm.flatMap_right _ hp).mem_iff.2 hx)⟩⟩⟩
theorem Owns.split {n0 : Nat} {A : List Nat} {w : World} {E E2 : List Ent} (h : Owns n0 w (E ++ E2) A) : Owns n0 w E (bl E2 ++ A) := by
 have hb : bl (E ++ E2) = bl E ++ bl E2 := by simp [bl]
 have hlt := h.lt
 have hnd := h.nd
 rw [hb] at hlt hnd
 obtain ⟨n1, n2, n3⟩ := List.nodup_append.1 hnd
 refine ⟨h.le, fun b hx => hlt b ?_, n1, fun b hx hy => ?_, fun e he => h.at_ e (List.mem_append_left _ he)⟩
 ·rcases List.mem_append.1 hx with hx | hx <;> simp [hx]
 ·rcases List.mem_append.1 hy with hy | hy
  ·exact n3 b hx b hy rfl
  ·exact h.out b (by rw [hb]; simp [hx]) hy
theorem Stp.join {n0 : Nat} {A : List Nat} {w w' : World} {E E1 E2 : List Ent} (h : Owns n0 w (E ++ E2) A) (ho : Owns n0 w' E1 (bl E2 ++ A)) (hf : Fr (bl E) w (bl E1) w') : Stp n0 A w (E ++ E2) w' (E1 ++ E2) := by
 have hb : bl (E ++ E2) = bl E ++ bl E2 := by simp [bl]
 have hb1 : bl (E1 ++ E2) = bl E1 ++ bl E2 := by simp [bl]
 have hnd := h.nd
 have hlt := h.lt
 rw [hb] at hnd hlt
 obtain ⟨n1, n2, n3⟩ := List.nodup_append.1 hnd
 refine ⟨⟨ho.le, fun b hx => ho.bd b (List.mem_append_right _ hx), ?_, ?_, ?_⟩, ⟨hf.os, hf.tape, hf.output, ⟨hf.ch.size, fun b hx hnb => ?_⟩⟩⟩
 ·rw [hb1]
  exact List.nodup_append.2 ⟨ho.nd, n2, fun a ha b hb hab => by subst hab; exact ho.out a ha (List.mem_append_left _ hb)⟩
 ·intro b hx
  rw [hb1] at hx
  rcases List.mem_append.1 hx with hx | hx
  ·exact fun hA => ho.out b hx (List.mem_append_right _ hA)
  ·exact h.out b (by rw [hb]; simp [hx])
 ·intro e he
  rcases List.mem_append.1 he with he | he
  ·exact ho.at_ e he
  ·refine Ent.keep (h.at_ e (List.mem_append_right _ he)) fun b hx => (hf.ch.keep b ?_ fun hy => ?_).1
   ·exact (Ent.lt (h.at_ e (List.mem_append_right _ he)) b hx).2
   ·exact n3 b hy b (J39.2 ⟨e, he, hx⟩) rfl
 ·rw [hb] at hnb
  simp only [List.mem_append, not_or] at hnb
  refine ⟨(hf.ch.keep b hx hnb.1).1, ?_⟩
  rw [hb1]
  simp only [List.mem_append, not_or]
  exact ⟨(hf.ch.keep b hx hnb.1).2, hnb.2⟩
theorem Ch.mem {B B' : List Nat} (w : World) (h : ∀ b, b ∈ B' → b ∈ B) : Ch B w B' w := ⟨Nat.le_refl _, fun b _ hb => ⟨rfl, fun hx => hb (h b hx)⟩⟩
theorem Ch.assoc (E E2 : List Ent) (A : List Nat) (w : World) : Ch (bl E ++ (bl E2 ++ A)) w (bl (E ++ E2) ++ A) w := .mem w fun b hb => by simpa [bl] using hb
theorem Ch.assoc' (E E2 : List Ent) (A : List Nat) (w : World) : Ch (bl (E ++ E2) ++ A) w (bl E ++ (bl E2 ++ A)) w := .mem w fun b hb => by simpa [bl] using hb
theorem Stp.more {n0 : Nat} {A : List Nat} {w w' : World} {E EN : List Ent} {A' : List Nat} (h : Owns n0 w E A) (hs : Same w w') (hN : Owns w.heap.size w' EN A') : Stp n0 A w E w' (EN ++ E) := by
 have hb : bl (EN ++ E) = bl EN ++ bl E := by simp [bl]
 have hge := hN.ge
 have hlt := h.lt
 refine ⟨⟨Nat.le_trans h.le hs.size, fun b hx => Nat.lt_of_lt_of_le (h.bd b hx) hs.size, ?_, ?_, ?_⟩, ⟨hs.os, hs.tape, hs.output, ⟨hs.size, fun b hx hnb => ⟨hs.block b hx, ?_⟩⟩⟩⟩
 ·rw [hb]
  exact List.nodup_append.2 ⟨hN.nd, h.nd, fun a ha b hb hab => by subst hab; have := hge a ha; have := hlt a (by simp [hb]); omega⟩
 ·intro b hx
  rw [hb] at hx
  rcases List.mem_append.1 hx with hx | hx
  ·exact fun hA => by have := hge b hx; have := h.bd b hA; omega
  ·exact h.out b hx
 ·intro e he
  rcases List.mem_append.1 he with he | he
  ·exact Ent.base h.le (hN.at_ e he)
  ·exact Ent.keep (h.at_ e he) fun b hx => hs.block b (Ent.lt (h.at_ e he) b hx).2
 ·rw [hb]
  simp only [List.mem_append, not_or]
  exact ⟨fun hy => by have := hge b hy; omega, hnb⟩
theorem Ch.weak (X A : List Nat) (w : World) : Ch (X ++ A) w A w := ⟨Nat.le_refl _, fun _ _ h => ⟨rfl, fun hx => h (List.mem_append_right _ hx)⟩⟩
end Sg
