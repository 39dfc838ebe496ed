/- -/
import Derived.Test.YtdcibmiaiijjpaaDraw
import Derived.Test.YtdcibmiaiijjpaaOwn
namespace Sg
open Go
set_option linter.unusedVariables false
set_option linter.unusedSimpArgs false
def CS (Lq : List (Option Addr)) (w w' : World) : Prop := ∀ q ∈ Lq, ∀ a, q = some a → w'.cell? a = w.cell? a
theorem CS.refl {Lq : List (Option Addr)} (w : World) : CS Lq w w := fun _ _ _ _ => rfl
theorem CS.trans {Lq : List (Option Addr)} {a b c : World} (h : CS Lq a b) (k : CS Lq b c) : CS Lq a c := fun q hq x hx => (k q hq x hx).trans (h q hq x hx)
theorem CS.nil (w w' : World) : CS [] w w' := fun _ h => nomatch h
theorem CS.cons {q : Option Addr} {Lq : List (Option Addr)} {w w' : World} (h : ∀ a, q = some a → w'.cell? a = w.cell? a) (k : CS Lq w w') : CS (q :: Lq) w w' := fun x hx => by
 rcases List.mem_cons.1 hx with rfl | hx
 ·exact h
 ·exact k x hx
section
variable {P : Program} {ops : Array Oper} {Q : Exit → Act → World → Prop} {Lq : List (Option Addr)}
def wpDR (Lq : List (Option Addr)) (P : Program) (ops : Array Oper) (ex : Nat → Bool) (Q : Exit → Act → World → Prop) : Nat → Array Bool → Act → World → Prop
  | 0, listed, a, w => Region.ready .any ops listed = [] ∧ Q .normal a w
  | fuel + 1, listed, a, w =>
    (Region.ready .any ops listed = [] → Q .normal a w) ∧
    ∀ i ∈ Region.ready .any ops listed, wpOp P ops Q i (fun a' w' => (CS Lq w w' ∨ ex i = true) ∧ wpDR Lq P ops ex Q fuel (listed.setIfInBounds i true) a' w') a w
theorem J36 {ex : Nat → Bool} : ∀ (fuel : Nat) (listed : Array Bool) (a : Act) (w : World), wpDR Lq P ops ex Q fuel listed a w → wpAny P .any ops Q fuel listed a w
 | 0, _, _, _, h => h
 | fuel + 1, _, _, _, h => ⟨h.1, fun i hi => wpOp_mono (fun a' w' h' => J36 fuel _ a' w' h'.2) (h.2 i hi)⟩
def YDR (Lq : List (Option Addr)) (P : Program) (ops : Array Oper) (m : Md) (o : Oper) (v : Value) (a : Act) (w : World) : Prop :=
 (Region.wanted o (yielded ops a.tmps) = true ∧ ∀ w', (m = .pure ∨ CS Lq w w') → ((execOp a.eval o).run P w' = .ok (.value v) w' ∨ ((execOp a.eval o).run P w' = .ok .skip w' ∧ v = undef))) ∨
 (Region.wanted o (yielded ops a.tmps) = false ∧ v = undef)
theorem YDR.run {m : Md} {i : Nat} {o : Oper} {v : Value} {a : Act} {w : World} (hi : ops[i]? = some o) (hy : YDR Lq P ops m o v a w) {K : Act → World → Prop} (h : K (a.put o.dst v) w) : wpOp P ops Q i K a w := by
 unfold wpOp
 simp only [hi]
 rcases hy with ⟨hw, hv⟩ | ⟨hw, rfl⟩
 ·simp only [hw, if_true]
  refine .inl ?_
  unfold Oper.wp
  rcases hv w (.inr (CS.refl w)) with hx | ⟨hx, rfl⟩ <;> (rw [hx]; exact h)
 ·simp only [hw, Bool.false_eq_true, if_false]; exact h
theorem YDR.keep {m : Md} {oi oj : Oper} {v : Value} {a : Act} {w w' : World} (hy : YDR Lq P ops m oi v a w) (hap : oi.apart ops oj = true) (hsi : ∀ cs b, oi.op ≠ .select cs b)
  (hw : m = .pure ∨ CS Lq w w') {a' : Act} (ha : ∃ u ds, a' = { a.put oj.dst u with defers := ds }) : YDR Lq P ops m oi v a' w' := by
 obtain ⟨u, ds, rfl⟩ := ha
 obtain ⟨_, _, h3⟩ := Oper.apart_spec hap
 have e1 : execOp ({ a.put oj.dst u with defers := ds } : Act).eval oi = execOp a.eval oi := by
  have : ({ a.put oj.dst u with defers := ds } : Act).eval = (a.put oj.dst u).eval := by funext x; cases x <;> rfl
  rw [this]; exact execOp_put oi hsi a oj.dst u h3
 have e2 := wanted_put oi a oj.dst u h3
 unfold YDR at *
 rw [e1]
 show (Region.wanted oi (yielded ops (a.put oj.dst u).tmps) = true ∧ _) ∨ (Region.wanted oi (yielded ops (a.put oj.dst u).tmps) = false ∧ _)
 rw [e2]
 rcases hy with ⟨h1, h2⟩ | h
 ·refine .inl ⟨h1, fun w'' h'' => h2 w'' ?_⟩
  rcases hw with hw | hw
  ·exact .inl hw
  ·rcases h'' with h'' | h''
   ·exact .inl h''
   ·exact .inr (CS.trans hw h'')
 ·exact .inr h
theorem J4d (hQ : Plain Q) {ex : Nat → Bool} {m : Md} {i : Nat} {oi : Oper} {v : Value} (hi : ops[i]? = some oi) (hsel : ∀ (j : Nat) (o : Oper) cs b, ops[j]? = some o → o.op ≠ .select cs b)
    (hm : m = .pure ∨ ∃ n, ∀ j, ex j = true → j ≠ i → anc ops n j i = true) :
    ∀ (fuel : Nat) (listed : Array Bool) (a : Act) (w : World), DC ops listed →
      (∀ j oj, ops[j]? = some oj → j ≠ i → listed.getD j true = false → (∀ e ∈ oj.after, Region.binds .any e = true → e.on ≠ i) → oi.apart ops oj = true) →
      i ∈ Region.ready .any ops listed → YDR Lq P ops m oi v a w →
      wpDR Lq P ops ex Q fuel (listed.setIfInBounds i true) (a.put oi.dst v) w → wpDR Lq P ops ex Q (fuel + 1) listed a w := by
  intro fuel
  induction fuel with
  | zero =>
    intro listed a w _ _ hr hy H
    refine ⟨fun h => (by rw [h] at hr; cases hr), fun j hj => ?_⟩
    by_cases hji : j = i
    · subst hji; exact hy.run hi ⟨.inl (CS.refl w), H⟩
    · have := ready_mono hj hji
      rw [H.1] at this
      cases this
  | succ fuel ih =>
    intro listed a w hdc hfree hr hy H
    refine ⟨fun h => (by rw [h] at hr; cases hr), fun j hj => ?_⟩
    by_cases hji : j = i
    · subst hji; exact hy.run hi ⟨.inl (CS.refl w), H⟩
    · have h1 := H.2 j (ready_mono hj hji)
      obtain ⟨hjun, oj, hoj, hall⟩ := mem_ready.1 hj
      have hiun : listed.getD i true = false := (mem_ready.1 hr).1
      have hnot : ∀ e ∈ oj.after, Region.binds .any e = true → e.on ≠ i := fun e he hb heq => by
        have h1 := hall e he hb
        rw [heq] at h1
        rcases Nat.lt_or_ge i listed.size with h' | h'
        · simp [h'] at hiun h1; rw [hiun] at h1; cases h1
        · simp [Array.getElem?_eq_none h'] at h1
      have hap := hfree j oj hoj hji hjun hnot
      have hex : m = .pure ∨ ex j ≠ true := by
        rcases hm with hm | ⟨n, hm⟩
        · exact .inl hm
        · refine .inr fun hxj => ?_
          have hl := J2F hdc n j i (hm j hxj hji) fun o ho e he hb => by rw [hoj] at ho; cases ho; exact hall e he hb
          rcases Nat.lt_or_ge i listed.size with h' | h'
          · simp [h'] at hiun hl; rw [hiun] at hl; cases hl
          · simp [Array.getElem?_eq_none h'] at hl
      have h2 := wpOp_put hQ hoj hap (fun cs b => hsel j oj cs b hoj) h1
      have hfree' : ∀ k ok, ops[k]? = some ok → k ≠ i → (listed.setIfInBounds j true).getD k true = false →
          (∀ e ∈ ok.after, Region.binds .any e = true → e.on ≠ i) → oi.apart ops ok = true := fun k ok hk hki hun hno => by
        refine hfree k ok hk hki ?_ hno
        by_cases hjk : j = k
        · subst hjk; exact hjun
        · rw [getD_set_ne true hjk] at hun; exact hun
      refine wpOp_mono (fun a' w' h3 => ?_) h2
      obtain ⟨ha', hsame, hrest⟩ := h3
      refine ⟨hsame, ?_⟩
      have hcls : m = .pure ∨ CS Lq w w' := by
        rcases hex with h | h
        · exact .inl h
        · exact .inr (hsame.resolve_right h)
      refine ih (listed.setIfInBounds j true) a' w' (hdc.next hj) hfree' (ready_mono hr (Ne.symm hji)) (hy.keep hap (fun cs b => hsel i oi cs b hi) hcls ha') ?_
      rw [Array.setIfInBounds_comm _ _ hji]
      exact hrest
end
def GoQR (Lq : List (Option Addr)) (P : Program) (f n : Nat) (L : List Oper) (s0 : List (Nat × Md)) (k : List Item) (R : Value → World → Prop) : List (Nat × Md) → (Nat → Value) → World → Prop
  | [], σ, w => Go1 P f n k σ w R
  | (i, m) :: s, σ, w => match nth L i with
    | none => False
    | some o => dOk n o.dst = true ∧ (match m with
      | .pure => (gd L σ o.guard = false ∧ GoQR Lq P f n L s0 k R s (putS σ o.dst undef) w) ∨ (gd L σ o.guard = true ∧ ∃ v, (∀ w', OpV P o.op o.type σ w' v w') ∧ GoQR Lq P f n L s0 k R s (putS σ o.dst v) w)
      | .stable => (gd L σ o.guard = false ∧ GoQR Lq P f n L s0 k R s (putS σ o.dst undef) w) ∨ (gd L σ o.guard = true ∧ ∃ v, (∀ w', CS Lq w w' → OpV P o.op o.type σ w' v w') ∧ GoQR Lq P f n L s0 k R s (putS σ o.dst v) w)
      | .loud => (gd L σ o.guard = false ∧ GoQR Lq P f n L s0 k R s (putS σ o.dst undef) w) ∨ (gd L σ o.guard = true ∧ ((∃ v w', OpV P o.op o.type σ w v w' ∧ CS Lq w w' ∧ GoQR Lq P f n L s0 k R s (putS σ o.dst v) w') ∨
          OpC P o.op o.type σ w fun v w' => CS Lq w w' ∧ GoQR Lq P f n L s0 k R s (putS σ o.dst v) w'))
      | .last => (gd L σ o.guard = false ∧ GoQR Lq P f n L s0 k R s (putS σ o.dst undef) w) ∨ (gd L σ o.guard = true ∧ ((∃ v w', OpV P o.op o.type σ w v w' ∧ GoQR Lq P f n L s0 k R s (putS σ o.dst v) w') ∨
          OpC P o.op o.type σ w fun v w' => GoQR Lq P f n L s0 k R s (putS σ o.dst v) w')))
theorem J3x {Lq : List (Option Addr)} {P : Program} {f n : Nat} {L : List Oper} {dep : Nat} {s0 : List (Nat × Md)} {k : List Item} {R : Value → World → Prop} (hsel : Region.noSelect L.toArray = true) :
    ∀ (s : List (Nat × Md)) (listed : Array Bool), scr L.toArray dep s0 s listed = true → DC L.toArray listed →
    ∀ (σ : Nat → Value) (w : World) (a : Act), Fits n a σ → GoQR Lq P f n L s0 k R s σ w → wpDR Lq P L.toArray (exOf s0) (QN P f k R) s.length listed a w
  | [], listed, hB, _, σ, w, a, ha, h => ⟨by simpa [scr] using hB, rfl, h a ha⟩
  | (i, m) :: s, listed, hB, hdc, σ, w, a, ha, h => by
    simp only [scr, Bool.and_eq_true] at hB
    obtain ⟨hm, hB'⟩ := hB
    simp only [GoQR] at h
    cases hn : nth L i with
    | none => simp [hn] at h
    | some o =>
      simp only [hn] at h
      obtain ⟨hd, h⟩ := h
      have hi : L.toArray[i]? = some o := by rw [J31] at hn; simpa using hn
      have ih : ∀ (hr : i ∈ Region.ready .any L.toArray listed) (v : Value) (w' : World) (_ : GoQR Lq P f n L s0 k R s (putS σ o.dst v) w'), wpDR Lq P L.toArray (exOf s0) (QN P f k R) s.length (listed.setIfInBounds i true) (a.put o.dst v) w' :=
        fun hr v w' hq => J3x hsel s _ hB' (hdc.next hr) (putS σ o.dst v) w' (a.put o.dst v) (ha.putO hd v) hq
      have quiet : ∀ (m : Md) (_ : m = .pure ∨ ∃ n, ∀ j, exOf s0 j = true → j ≠ i → anc L.toArray n j i = true), i ∈ Region.ready .any L.toArray listed → Region.free .any L.toArray listed i = true →
          ((gd L σ o.guard = false ∧ GoQR Lq P f n L s0 k R s (putS σ o.dst undef) w) ∨ (gd L σ o.guard = true ∧ ∃ v, (∀ w', (m = .pure ∨ CS Lq w w') → OpV P o.op o.type σ w' v w') ∧ GoQR Lq P f n L s0 k R s (putS σ o.dst v) w)) →
          wpDR Lq P L.toArray (exOf s0) (QN P f k R) (s.length + 1) listed a w := by
        intro m hmx hr hf h
        rcases h with ⟨hg, hq⟩ | ⟨hg, v, hv, hq⟩
        · refine J4d (plainQN P f k R) (v := undef) hi (Region.noSelect_spec hsel) hmx s.length listed a w hdc (Region.free_spec hi hf) hr (.inr ⟨by rw [gd_eq ha]; exact hg, rfl⟩) (ih hr undef w hq)
        · refine J4d (plainQN P f k R) (v := v) hi (Region.noSelect_spec hsel) hmx s.length listed a w hdc (Region.free_spec hi hf) hr (.inl ⟨by rw [gd_eq ha]; exact hg, fun w' hw' => ?_⟩) (ih hr v w hq)
          have := hv w' hw'
          unfold OpV at this
          rw [J0H, ha.eval]
          exact this
      have loud : ∀ (C : World → Prop) (_ : ∀ w', C w' → CS Lq w w' ∨ exOf s0 i = true), Region.ready .any L.toArray listed = [i] →
          ((gd L σ o.guard = false ∧ GoQR Lq P f n L s0 k R s (putS σ o.dst undef) w) ∨ (gd L σ o.guard = true ∧ ((∃ v w', OpV P o.op o.type σ w v w' ∧ C w' ∧ GoQR Lq P f n L s0 k R s (putS σ o.dst v) w') ∨
          OpC P o.op o.type σ w fun v w' => C w' ∧ GoQR Lq P f n L s0 k R s (putS σ o.dst v) w'))) →
          wpDR Lq P L.toArray (exOf s0) (QN P f k R) (s.length + 1) listed a w := by
        intro C hC hr h
        have hri : i ∈ Region.ready .any L.toArray listed := by rw [hr]; exact List.mem_singleton.2 rfl
        refine ⟨fun h0 => (by rw [h0] at hr; cases hr), fun j hj => ?_⟩
        rw [hr] at hj
        obtain rfl := List.mem_singleton.1 hj
        unfold wpOp
        simp only [hi]
        rw [gd_eq ha]
        rcases h with ⟨hg, hq⟩ | ⟨hg, h⟩
        · rw [hg]; exact ⟨.inl (CS.refl w), ih hri undef w hq⟩
        · rw [hg, if_pos rfl]
          refine .inl ?_
          unfold Oper.wp
          rw [J0H, ha.eval]
          rcases h with ⟨v, w', hv, hc, hq⟩ | ⟨fc, args, hx, hcall⟩
          · rcases hv with hv | ⟨hv, rfl⟩ <;> (rw [hv]; exact ⟨hC w' hc, ih hri _ w' hq⟩)
          · rw [hx]
            exact Calls.mono hcall fun e w'' ⟨v, he, hc, hq⟩ => by subst he; exact ⟨hC w'' hc, ih hri v w'' hq⟩
      cases m with
      | pure =>
        simp only [Bool.and_eq_true] at hm
        refine quiet .pure (.inl rfl) (by simpa using hm.1) hm.2 ?_
        rcases h with h | ⟨hg, v, hv, hq⟩
        · exact .inl h
        · exact .inr ⟨hg, v, fun w' _ => hv w', hq⟩
      | stable =>
        simp only [Bool.and_eq_true] at hm
        refine quiet .stable (.inr ⟨dep, fun j hj hji => ?_⟩) (by simpa using hm.1.1) hm.1.2 ?_
        · simp only [exOf, List.any_eq_true, Bool.and_eq_true] at hj
          obtain ⟨p, hp, hpj, hpm⟩ := hj
          have h1 := List.all_eq_true.1 hm.2 p hp
          have e1 := Nat.eq_of_beq_eq_true hpj
          cases hp2 : p.2 <;> simp [hp2] at hpm h1
          rcases h1 with h1 | h1
          · exact absurd (e1.symm.trans h1) hji
          · rw [← e1]; exact h1
        · rcases h with h | ⟨hg, v, hv, hq⟩
          · exact .inl h
          · exact .inr ⟨hg, v, fun w' hw' => hv w' (hw'.resolve_left (by simp)), hq⟩
      | loud =>
        refine loud (CS Lq w) (fun w' h' => .inl h') (by simpa using hm) ?_
        exact h
      | last =>
        simp only [Bool.and_eq_true] at hm
        refine loud (fun _ => True) (fun w' _ => .inr hm.2) (by simpa using hm.1) ?_
        rcases h with h | ⟨hg, h | h⟩
        · exact .inl h
        · obtain ⟨v, w', hv, hq⟩ := h
          exact .inr ⟨hg, .inl ⟨v, w', hv, trivial, hq⟩⟩
        · obtain ⟨fc, args, hx', hcall⟩ := h
          exact .inr ⟨hg, .inr ⟨fc, args, hx', CallsV.mono hcall fun v w' hq => ⟨trivial, hq⟩⟩⟩
theorem Go1.drawR {Lq : List (Option Addr)} {P : Program} {f n : Nat} {L : List Oper} {k : List Item} {σ : Nat → Value} {w : World} {R : Value → World → Prop} {i : Nat} (dep : Nat) (s : List (Nat × Md))
  (hm : P.follows .mixedOrders = true) (hB : scrOk L dep s = true) (h : GoQR Lq P f n L s k R s σ { w with drawn := w.drawn + 1 }) :
  Go1 P f n (.code (.region i L.toArray true) :: k) σ w R := by
 simp only [scrOk, Bool.and_eq_true] at hB
 obtain ⟨⟨h1, h2⟩, h3⟩ := hB
 have hl := Nat.eq_of_beq_eq_true h2
 intro a ha
 refine Cont.of_wp (wp_region_any hm (J36 (Lq := Lq) (ex := exOf s) _ _ _ _ ?_))
 have := J3x (dep := dep) h1 s (Array.replicate L.length false) h3 (by simpa using DC.start L.toArray) σ _ a ha h
 rw [hl] at this
 simpa using this
section
variable {Lq : List (Option Addr)} {P : Program} {f n : Nat} {L : List Oper} {s0 s : List (Nat × Md)} {k : List Item} {σ : Nat → Value} {w w' : World} {R : Value → World → Prop} {i : Nat}
theorem GoQR.nil (h : Go1 P f n k σ w R) : GoQR Lq P f n L s0 k R [] σ w := h
theorem GoQR.pure {d : Option Nat} {op : Op} {ty : TypeId} {pos : String} {aft : Array Edge} {g : Option (Nat × Bool)} {v : Value}
  (hi : nth L i = some ⟨d, op, ty, pos, aft, g⟩) (hv : ∀ w', OpV P op ty σ w' v w') (hg : gd L σ g = true) (hd : dOk n d = true)
  (h : GoQR Lq P f n L s0 k R s (putS σ d v) w) : GoQR Lq P f n L s0 k R ((i, .pure) :: s) σ w := by
 simp only [GoQR, hi]; exact ⟨hd, .inr ⟨hg, v, hv, h⟩⟩
theorem GoQR.stable {d : Option Nat} {op : Op} {ty : TypeId} {pos : String} {aft : Array Edge} {g : Option (Nat × Bool)} {v : Value}
  (hi : nth L i = some ⟨d, op, ty, pos, aft, g⟩) (hv : ∀ w', CS Lq w w' → OpV P op ty σ w' v w') (hg : gd L σ g = true) (hd : dOk n d = true)
  (h : GoQR Lq P f n L s0 k R s (putS σ d v) w) : GoQR Lq P f n L s0 k R ((i, .stable) :: s) σ w := by
 simp only [GoQR, hi]; exact ⟨hd, .inr ⟨hg, v, hv, h⟩⟩
theorem GoQR.pass {d : Option Nat} {op : Op} {ty : TypeId} {pos : String} {aft : Array Edge} {g : Option (Nat × Bool)} {m : Md}
  (hi : nth L i = some ⟨d, op, ty, pos, aft, g⟩) (hg : gd L σ g = false) (hd : dOk n d = true)
  (h : GoQR Lq P f n L s0 k R s (putS σ d undef) w) : GoQR Lq P f n L s0 k R ((i, m) :: s) σ w := by
 cases m <;> (simp only [GoQR, hi]; exact ⟨hd, .inl ⟨hg, h⟩⟩)
theorem GoQR.loud {d : Option Nat} {op : Op} {ty : TypeId} {pos : String} {aft : Array Edge} {g : Option (Nat × Bool)} {v : Value}
  (hi : nth L i = some ⟨d, op, ty, pos, aft, g⟩) (hv : OpV P op ty σ w v w') (hs : CS Lq w w') (hg : gd L σ g = true) (hd : dOk n d = true)
  (h : GoQR Lq P f n L s0 k R s (putS σ d v) w') : GoQR Lq P f n L s0 k R ((i, .loud) :: s) σ w := by
 simp only [GoQR, hi]; exact ⟨hd, .inr ⟨hg, .inl ⟨v, w', hv, hs, h⟩⟩⟩
theorem GoQR.last {d : Option Nat} {op : Op} {ty : TypeId} {pos : String} {aft : Array Edge} {g : Option (Nat × Bool)} {v : Value}
  (hi : nth L i = some ⟨d, op, ty, pos, aft, g⟩) (hv : OpV P op ty σ w v w') (hg : gd L σ g = true) (hd : dOk n d = true)
  (h : GoQR Lq P f n L s0 k R s (putS σ d v) w') : GoQR Lq P f n L s0 k R ((i, .last) :: s) σ w := by
 simp only [GoQR, hi]; exact ⟨hd, .inr ⟨hg, .inl ⟨v, w', hv, h⟩⟩⟩
theorem GoQR.call {d : Option Nat} {op : Op} {ty : TypeId} {pos : String} {aft : Array Edge} {g : Option (Nat × Bool)} {R1 : Value → World → Prop}
  (hi : nth L i = some ⟨d, op, ty, pos, aft, g⟩) (hc : OpC P op ty σ w R1) (hs : ∀ v w', R1 v w' → CS Lq w w') (hg : gd L σ g = true) (hd : dOk n d = true)
  (h : ∀ v w', R1 v w' → GoQR Lq P f n L s0 k R s (putS σ d v) w') : GoQR Lq P f n L s0 k R ((i, .loud) :: s) σ w := by
 simp only [GoQR, hi]
 obtain ⟨fc, args, hx, hcall⟩ := hc
 exact ⟨hd, .inr ⟨hg, .inr ⟨fc, args, hx, CallsV.mono hcall fun v w' h' => ⟨hs v w' h', h v w' h'⟩⟩⟩⟩
end
theorem Go1.drawRS (Lq : List (Option Addr)) {P : Program} {f n : Nat} {L : List Oper} {k : List Item} {σ : Nat → Value} {w : World} {R : Value → World → Prop} {i : Nat} (dep : Nat) (s : List (Nat × Md))
  (hm : P.follows .mixedOrders = true) (hB : scrOk L dep s = true) (h : ∀ w1, Same w w1 → GoQR Lq P f n L s k R s σ w1) :
  Go1 P f n (.code (.region i L.toArray true) :: k) σ w R := Go1.drawR dep s hm hB (h _ (Same.drew w))
section
variable {P : Program} {σ : Nat → Value} {w : World} {t ty e : TypeId} {x : Operand} {A : List Nat} {E : List Ent} {n0 : Nat}
theorem loadR {Lq : List (Option Addr)} {q : Option Addr} {v : Value} {d : TypeDesc} (hq : q ∈ Lq) (hs : q.isSome = true) (hc : ∀ a, q = some a → w.cell? a = some v) (ht : P.underlying t = some d) (hd : scB d = true) (hx : ev σ x = .pointer q) (w' : World) (hw : CS Lq w w') : OpV P (.load t x) ty σ w' v w' := by
 obtain ⟨a, rfl⟩ := Option.isSome_iff_exists.1 hs
 exact J2c ht hd hx ((hw _ hq a rfl).trans (hc a rfl))
theorem J1o {b i : Nat} {cs : Array Value} {T : TypeId} {fz : Nat × Nat} (j : Nat) (hO : Owns n0 w E A) (hj : E[j]? = some (.blk b (.cells cs T fz))) {v : Value} (hv : cs[i]? = some v) : ∀ a, (some ⟨b, i, none⟩ : Option Addr) = some a → w.cell? a = some v := by
 intro a ha
 cases ha
 have hh := (hO.at_ _ (List.mem_of_getElem? hj)).2
 simp [World.cell?, hh, hv]
theorem rowCellInt {k : IntKind} {p : Option Addr} {n c : Nat} {vs : List Value} {xs : List Int} (j : Nat) (hO : Owns n0 w E A) (hj : E[j]? = some (.row e 1 p n c vs)) (hE : Els (Rp.int k) (bl E ++ A) w vs xs) {i : Int} (h0 : 0 ≤ i) (h1 : i < xs.length) :
    ∀ a, padd p (i.toNat * 1) = some a → w.cell? a = some (.int k (ix xs i)) := by
  intro a ha
  have h := hO.at_ _ (List.mem_of_getElem? hj)
  have hl := hE.len
  have hv := hE.at_ i.toNat (by omega)
  simp only [Rp.int, Nat.mul_one, Nat.add_zero] at hv hl
  cases p with
  | none => simp [padd] at ha
  | some a0 =>
    obtain ⟨q1, q2, q3⟩ := J40 h rfl
    simp only [padd, Option.map_some, Option.some.injEq, Nat.mul_one] at ha
    subst ha
    have := q3 i.toNat (by omega)
    rw [hv] at this
    rw [add_lit' a0 q1]
    simp only [cel] at this
    rw [this, ix_eq (by omega)]
theorem cs_eq {q : Option Addr} {w w' : World} {v : Value} (h : ∀ a, q = some a → w.cell? a = some v) (k : ∀ a, q = some a → w'.cell? a = some v) : ∀ a, q = some a → w'.cell? a = w.cell? a := fun a ha => (k a ha).trans (h a ha).symm
theorem J5H {p : Option Addr} {m : Nat} (h : p.isSome = true) : (padd p m).isSome = true := by
 cases p with
 | none => cases h
 | some a => rfl
end
end Sg
