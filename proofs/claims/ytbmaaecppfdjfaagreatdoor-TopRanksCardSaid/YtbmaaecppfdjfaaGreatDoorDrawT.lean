/- -/
import Derived.Test.YtbmaaecppfdjfaaGreatDoorDrawA
import Derived.Test.YtbmaaecppfdjfaaGreatDoorCB
namespace Sg
open Go Go.RowKit
set_option linter.unusedVariables false
set_option linter.unusedSimpArgs false
inductive Tr where
 | nil | fin
 | qp (i : Nat) (t : Tr)
 | qs (i : Nat) (t : Tr)
 | alt (i : Nat) (t r : Tr)
def Tr.idx : Tr → List Nat
 | .alt i _ r => i :: r.idx
 | _ => []
def trOk (ops : Array Oper) (xs : List Nat) (dep : Nat) : Bool → Nat → Tr → Array Bool → Bool
 | b, m, .nil, listed => !b && (Nat.beq m 0 && (Region.ready .any ops listed).isEmpty)
 | b, _, .fin, _ => b
 | b, 0, .qp _ _, _ => false
 | b, m + 1, .qp i t, listed => !b && ((Region.ready .any ops listed).contains i && (Region.free .any ops listed i && trOk ops xs dep false m t (listed.setIfInBounds i true)))
 | b, 0, .qs _ _, _ => false
 | b, m + 1, .qs i t, listed => !b && ((Region.ready .any ops listed).contains i && (Region.free .any ops listed i && ((xs.all fun j => Nat.beq j i || anc ops dep j i) && trOk ops xs dep false m t (listed.setIfInBounds i true))))
 | b, 0, .alt _ _ _, _ => false
 | b, m + 1, .alt i t r, listed => (b || (Region.ready .any ops listed == i :: r.idx)) && (trOk ops xs dep false m t (listed.setIfInBounds i true) && trOk ops xs dep true (m + 1) r listed)
section
variable (xs : List Nat) (T : World → World → Prop) (P : Program) (f n : Nat) (L : List Oper) (k : List Item) (R : Value → World → Prop)
def GoT : Tr → (Nat → Value) → World → Prop
  | .nil, σ, w => Go1 P f n k σ w R
  | .fin, _, _ => True
  | .qp i t, σ, w => match nth L i with
    | none => False
    | some o => dOk n o.dst = true ∧ ((gd L σ o.guard = false ∧ GoT t (putS σ o.dst undef) w) ∨ (gd L σ o.guard = true ∧ ∃ v, (∀ w', OpV P o.op o.type σ w' v w') ∧ GoT t (putS σ o.dst v) w))
  | .qs i t, σ, w => match nth L i with
    | none => False
    | some o => dOk n o.dst = true ∧ ((gd L σ o.guard = false ∧ GoT t (putS σ o.dst undef) w) ∨ (gd L σ o.guard = true ∧ ∃ v, (∀ w', T w w' → OpV P o.op o.type σ w' v w') ∧ GoT t (putS σ o.dst v) w))
  | .alt i t r, σ, w => (match nth L i with
    | none => False
    | some o => dOk n o.dst = true ∧ ((gd L σ o.guard = false ∧ GoT t (putS σ o.dst undef) w) ∨ (gd L σ o.guard = true ∧ ((∃ v w', OpV P o.op o.type σ w v w' ∧ (T w w' ∨ xs.contains i = true) ∧ GoT t (putS σ o.dst v) w') ∨
        OpC P o.op o.type σ w fun v w' => (T w w' ∨ xs.contains i = true) ∧ GoT t (putS σ o.dst v) w')))) ∧ GoT r σ w
end
section
variable {xs : List Nat} {dep : Nat} {T : World → World → Prop} {P : Program} {f n : Nat} {L : List Oper} {k : List Item} {R : Value → World → Prop}
theorem J75 (hT : RTw T) (hsel : Region.noSelect L.toArray = true) :
    ∀ (t : Tr) (b : Bool) (m : Nat) (listed : Array Bool), trOk L.toArray xs dep b m t listed = true → DC L.toArray listed →
    ∀ (σ : Nat → Value) (w : World) (a : Act), Fits n a σ → GoT xs T P f n L k R t σ w →
    (b = false → wpDT T P L.toArray (fun j => xs.contains j) (QN P f k R) m listed a w) ∧
    (∀ m', m = m' + 1 → ∀ j ∈ t.idx, j ∈ Region.ready .any L.toArray listed → wpOp P L.toArray (QN P f k R) j (fun a' w' => (T w w' ∨ xs.contains j = true) ∧ wpDT T P L.toArray (fun j => xs.contains j) (QN P f k R) m' (listed.setIfInBounds j true) a' w') a w)
  | .nil, b, m, listed, hB, hdc, σ, w, a, ha, h => by
    simp only [trOk, Bool.and_eq_true] at hB
    have hm := Nat.eq_of_beq_eq_true hB.2.1
    subst hm
    exact ⟨fun _ => ⟨by simpa using hB.2.2, rfl, h a ha⟩, fun m' hm => by cases hm⟩
  | .fin, b, m, listed, hB, hdc, σ, w, a, ha, h => by
    simp only [trOk] at hB
    refine ⟨fun hb => (by rw [hb] at hB; cases hB), fun m' _ j hj => by simp [Tr.idx] at hj⟩
  | .qp i t, b, m, listed, hB, hdc, σ, w, a, ha, h => by
    cases m with
    | zero => simp [trOk] at hB
    | succ m =>
      simp only [trOk, Bool.and_eq_true] at hB
      obtain ⟨_, hr, hf, hB'⟩ := hB
      refine ⟨fun _ => ?_, fun m' _ j hj => by simp [Tr.idx] at hj⟩
      simp only [GoT] at h
      cases hn : nth L i with
      | none => simp [hn] at h
      | some o =>
        simp only [hn] at h
        obtain ⟨hd, h⟩ := h
        have hi : L.toArray[i]? = some o := by rw [J4M] at hn; simpa using hn
        have hr' : i ∈ Region.ready .any L.toArray listed := by simpa using hr
        have ih : ∀ (v : Value) (_ : GoT xs T P f n L k R t (putS σ o.dst v) w), wpDT T P L.toArray (fun j => xs.contains j) (QN P f k R) m (listed.setIfInBounds i true) (a.put o.dst v) w :=
          fun v hq => (J75 hT hsel t false m _ hB' (hdc.next hr') (putS σ o.dst v) w (a.put o.dst v) (ha.putO hd v) hq).1 rfl
        rcases h with ⟨hg, hq⟩ | ⟨hg, v, hv, hq⟩
        · exact J6j hT (plainQN P f k R) (m := .pure) (v := undef) hi (Region.noSelect_spec hsel) (.inl rfl) m listed a w hdc (Region.free_spec hi hf) hr' (.inr ⟨by rw [gd_eq ha]; exact hg, rfl⟩) (ih undef hq)
        · refine J6j hT (plainQN P f k R) (m := .pure) (v := v) hi (Region.noSelect_spec hsel) (.inl rfl) m listed a w hdc (Region.free_spec hi hf) hr' (.inl ⟨by rw [gd_eq ha]; exact hg, fun w' _ => ?_⟩) (ih v hq)
          have := hv w'
          unfold OpV at this
          rw [J2u, ha.eval]
          exact this
  | .qs i t, b, m, listed, hB, hdc, σ, w, a, ha, h => by
    cases m with
    | zero => simp [trOk] at hB
    | succ m =>
      simp only [trOk, Bool.and_eq_true] at hB
      obtain ⟨_, hr, hf, hx, hB'⟩ := hB
      refine ⟨fun _ => ?_, fun m' _ j hj => by simp [Tr.idx] at hj⟩
      simp only [GoT] at h
      cases hn : nth L i with
      | none => simp [hn] at h
      | some o =>
        simp only [hn] at h
        obtain ⟨hd, h⟩ := h
        have hi : L.toArray[i]? = some o := by rw [J4M] at hn; simpa using hn
        have hr' : i ∈ Region.ready .any L.toArray listed := by simpa using hr
        have ih : ∀ (v : Value) (_ : GoT xs T P f n L k R t (putS σ o.dst v) w), wpDT T P L.toArray (fun j => xs.contains j) (QN P f k R) m (listed.setIfInBounds i true) (a.put o.dst v) w :=
          fun v hq => (J75 hT hsel t false m _ hB' (hdc.next hr') (putS σ o.dst v) w (a.put o.dst v) (ha.putO hd v) hq).1 rfl
        have hex : Md.stable = .pure ∨ ∃ n, ∀ j, (fun j : Nat => xs.contains j) j = true → j ≠ i → anc L.toArray n j i = true := .inr ⟨dep, fun j hj hji => by
          have hj : j ∈ xs := by simpa using hj
          have := List.all_eq_true.1 hx j hj
          simp only [Bool.or_eq_true] at this
          rcases this with h1 | h1
          · exact absurd (Nat.eq_of_beq_eq_true h1) hji
          · exact h1⟩
        rcases h with ⟨hg, hq⟩ | ⟨hg, v, hv, hq⟩
        · exact J6j hT (plainQN P f k R) (m := .stable) (v := undef) hi (Region.noSelect_spec hsel) hex m listed a w hdc (Region.free_spec hi hf) hr' (.inr ⟨by rw [gd_eq ha]; exact hg, rfl⟩) (ih undef hq)
        · refine J6j hT (plainQN P f k R) (m := .stable) (v := v) hi (Region.noSelect_spec hsel) hex m listed a w hdc (Region.free_spec hi hf) hr' (.inl ⟨by rw [gd_eq ha]; exact hg, fun w' hw' => ?_⟩) (ih v hq)
          have := hv w' (hw'.resolve_left (by simp))
          unfold OpV at this
          rw [J2u, ha.eval]
          exact this
  | .alt i t r, b, m, listed, hB, hdc, σ, w, a, ha, h => by
    cases m with
    | zero => simp [trOk] at hB
    | succ m =>
      simp only [trOk, Bool.and_eq_true] at hB
      obtain ⟨hb, hB', hBr⟩ := hB
      simp only [GoT] at h
      obtain ⟨h, hrest⟩ := h
      have key : ∀ m', m + 1 = m' + 1 → ∀ j ∈ (Tr.alt i t r).idx, j ∈ Region.ready .any L.toArray listed → wpOp P L.toArray (QN P f k R) j (fun a' w' => (T w w' ∨ xs.contains j = true) ∧ wpDT T P L.toArray (fun j => xs.contains j) (QN P f k R) m' (listed.setIfInBounds j true) a' w') a w := by
        intro m' hm j hj hjr
        have hm : m' = m := by omega
        subst hm
        simp only [Tr.idx, List.mem_cons] at hj
        rcases hj with rfl | hj
        · cases hn : nth L j with
          | none => simp [hn] at h
          | some o =>
            simp only [hn] at h
            obtain ⟨hd, h⟩ := h
            have hi : L.toArray[j]? = some o := by rw [J4M] at hn; simpa using hn
            have ih : ∀ (v : Value) (w' : World) (_ : GoT xs T P f n L k R t (putS σ o.dst v) w'), wpDT T P L.toArray (fun j => xs.contains j) (QN P f k R) m' (listed.setIfInBounds j true) (a.put o.dst v) w' :=
              fun v w' hq => (J75 hT hsel t false m' _ hB' (hdc.next hjr) (putS σ o.dst v) w' (a.put o.dst v) (ha.putO hd v) hq).1 rfl
            unfold wpOp
            simp only [hi]
            rw [gd_eq ha]
            rcases h with ⟨hg, hq⟩ | ⟨hg, h⟩
            · rw [hg]; exact ⟨.inl (hT.refl w), ih undef w hq⟩
            · rw [hg, if_pos rfl]
              refine .inl ?_
              unfold Oper.wp
              rw [J2u, ha.eval]
              rcases h with ⟨v, w', hv, hc, hq⟩ | ⟨fc, args, hx, hcall⟩
              · rcases hv with hv | ⟨hv, rfl⟩ <;> (rw [hv]; exact ⟨hc, ih _ w' hq⟩)
              · rw [hx]
                exact Calls.mono hcall fun e w'' ⟨v, he, hc, hq⟩ => by subst he; exact ⟨hc, ih v w'' hq⟩
        · exact (J75 hT hsel r true (m' + 1) listed hBr hdc σ w a ha hrest).2 m' rfl j hj hjr
      refine ⟨fun hbf => ?_, key⟩
      subst hbf
      have hr : Region.ready .any L.toArray listed = i :: r.idx := by simpa using hb
      refine ⟨fun h0 => (by rw [h0] at hr; cases hr), fun j hj => key m rfl j ?_ hj⟩
      rw [hr] at hj
      exact hj
theorem Go1.drawT {ok : World → Prop} {σ : Nat → Value} {w : World} {i : Nat} (hT : TR T ok) (xs : List Nat) (dep : Nat) (t : Tr) (hm : P.follows .mixedOrders = true) (hB : (Region.noSelect L.toArray && trOk L.toArray xs dep false L.length t (Array.replicate L.length false)) = true)
  (h : ∀ w1, Same w w1 → GoT xs T P f n L k R t σ w1) : Go1 P f n (.code (.region i L.toArray true) :: k) σ w R := by
 simp only [Bool.and_eq_true] at hB
 obtain ⟨h1, h3⟩ := hB
 intro a ha
 refine Cont.of_wp (wp_region_any hm (J8O (T := T) (ex := fun j => xs.contains j) _ _ _ _ ?_))
 have := (J75 (xs := xs) (dep := dep) hT.rt h1 t false L.length (Array.replicate L.length false) h3 (by simpa using DC.start L.toArray) σ _ a ha (h _ (Same.drew w))).1 rfl
 simpa using this
end
section
variable {xs : List Nat} {dep : Nat} {T : World → World → Prop} {P : Program} {f n : Nat} {L : List Oper} {k : List Item} {R : Value → World → Prop} {t r : Tr} {σ : Nat → Value} {w w' : World} {i : Nat}
variable {d : Option Nat} {op : Op} {ty : TypeId} {pos : String} {aft : Array Edge} {g : Option (Nat × Bool)}
theorem GoT.nil (h : Go1 P f n k σ w R) : GoT xs T P f n L k R .nil σ w := h
theorem GoT.pure {v : Value} (hi : nth L i = some ⟨d, op, ty, pos, aft, g⟩) (hv : ∀ w', OpV P op ty σ w' v w') (hg : gd L σ g = true) (hd : dOk n d = true)
  (h : GoT xs T P f n L k R t (putS σ d v) w) : GoT xs T P f n L k R (.qp i t) σ w := by
 simp only [GoT, hi]; exact ⟨hd, .inr ⟨hg, v, hv, h⟩⟩
theorem GoT.stable {v : Value} (hi : nth L i = some ⟨d, op, ty, pos, aft, g⟩) (hv : ∀ w', T w w' → OpV P op ty σ w' v w') (hg : gd L σ g = true) (hd : dOk n d = true)
  (h : GoT xs T P f n L k R t (putS σ d v) w) : GoT xs T P f n L k R (.qs i t) σ w := by
 simp only [GoT, hi]; exact ⟨hd, .inr ⟨hg, v, hv, h⟩⟩
theorem GoT.both (h1 : GoT xs T P f n L k R (.alt i t .fin) σ w) (h2 : GoT xs T P f n L k R r σ w) : GoT xs T P f n L k R (.alt i t r) σ w := by
 simp only [GoT] at h1 ⊢; exact ⟨h1.1, h2⟩
theorem GoT.step {v : Value} (hi : nth L i = some ⟨d, op, ty, pos, aft, g⟩) (hv : OpV P op ty σ w v w') (hs : T w w') (hg : gd L σ g = true) (hd : dOk n d = true)
  (h : GoT xs T P f n L k R t (putS σ d v) w') : GoT xs T P f n L k R (.alt i t .fin) σ w := by
 simp only [GoT, hi]; exact ⟨⟨hd, .inr ⟨hg, .inl ⟨v, w', hv, .inl hs, h⟩⟩⟩, trivial⟩
theorem GoT.call {R1 : Value → World → Prop} (hi : nth L i = some ⟨d, op, ty, pos, aft, g⟩) (hc : OpC P op ty σ w R1) (hs : ∀ v w', R1 v w' → T w w') (hg : gd L σ g = true) (hd : dOk n d = true)
  (h : ∀ v w', R1 v w' → GoT xs T P f n L k R t (putS σ d v) w') : GoT xs T P f n L k R (.alt i t .fin) σ w := by
 simp only [GoT, hi]
 obtain ⟨fc, args, hx, hcall⟩ := hc
 exact ⟨⟨hd, .inr ⟨hg, .inr ⟨fc, args, hx, CallsV.mono hcall fun v w' h' => ⟨.inl (hs v w' h'), h v w' h'⟩⟩⟩⟩, trivial⟩
theorem GoT.stepX {v : Value} (hi : nth L i = some ⟨d, op, ty, pos, aft, g⟩) (hv : OpV P op ty σ w v w') (hs : xs.contains i = true) (hg : gd L σ g = true) (hd : dOk n d = true)
  (h : GoT xs T P f n L k R t (putS σ d v) w') : GoT xs T P f n L k R (.alt i t .fin) σ w := by
 simp only [GoT, hi]; exact ⟨⟨hd, .inr ⟨hg, .inl ⟨v, w', hv, .inr hs, h⟩⟩⟩, trivial⟩
theorem GoT.callX {R1 : Value → World → Prop} (hi : nth L i = some ⟨d, op, ty, pos, aft, g⟩) (hc : OpC P op ty σ w R1) (hs : xs.contains i = true) (hg : gd L σ g = true) (hd : dOk n d = true)
  (h : ∀ v w', R1 v w' → GoT xs T P f n L k R t (putS σ d v) w') : GoT xs T P f n L k R (.alt i t .fin) σ w := by
 simp only [GoT, hi]
 obtain ⟨fc, args, hx, hcall⟩ := hc
 exact ⟨⟨hd, .inr ⟨hg, .inr ⟨fc, args, hx, CallsV.mono hcall fun v w' h' => ⟨.inr hs, h v w' h'⟩⟩⟩⟩, trivial⟩
theorem GoT.pass (hi : nth L i = some ⟨d, op, ty, pos, aft, g⟩) (hg : gd L σ g = false) (hd : dOk n d = true) (h : GoT xs T P f n L k R t (putS σ d undef) w) :
  GoT xs T P f n L k R (.qp i t) σ w ∧ GoT xs T P f n L k R (.qs i t) σ w ∧ GoT xs T P f n L k R (.alt i t .fin) σ w := by
 simp only [GoT, hi]; exact ⟨⟨hd, .inl ⟨hg, h⟩⟩, ⟨hd, .inl ⟨hg, h⟩⟩, ⟨hd, .inl ⟨hg, h⟩⟩, trivial⟩
end
end Sg
namespace Sg
open Go Go.RowKit
section
variable {xs : List Nat} {dep : Nat} {T : World → World → Prop} {P : Program} {f n : Nat} {L : List Oper} {k : List Item} {R : Value → World → Prop} {t : Tr} {σ : Nat → Value} {w : World} {i : Nat} {ty : TypeId}
theorem GoT.inl {g m : Nat} {fn : Func} {c : Code} {x : Operand} {ys : List Operand} {vs caps : List Value} {ts : Array TypeId} {d : Option Nat} {pos : String} {aft : Array Edge} {gg : Option (Nat × Bool)}
  (hi : nth L i = some ⟨d, .call { callee := .value x, args := ys.toArray, argTypes := ts }, ty, pos, aft, gg⟩)
  (hx : ev σ x = .func (.func g) #[] caps.toArray) (hl : ys.map (ev σ) = vs) (hb : Body P g) (hf : P.funcs[g]? = some fn) (hbody : fn.body = some c) (hn : fn.ntmps = m) (hle : Nat.ble (vs ++ caps).length m = true) (hg : gd L σ gg = true) (hd : dOk n d = true)
  (h : ∀ R1 : Value → World → Prop, (∀ v w', T w w' → GoT xs T P f n L k R t (putS σ d v) w' → R1 v w') → Go1 P g m [.code c] (initσ (vs ++ caps)) w R1) :
  GoT xs T P f n L k R (.alt i t .fin) σ w :=
 GoT.call (R1 := fun v w' => T w w' ∧ GoT xs T P f n L k R t (putS σ d v) w') hi (J5n hb hx hl (CallsV.of hf hbody hn hle (h _ fun _ _ h1 h2 => ⟨h1, h2⟩))) (fun _ _ h => h.1) hg hd fun _ _ h => h.2
end
section
variable {n0 : Nat} {w : World} {E : List Ent} {A : List Nat} {e : TypeId}
end
end Sg
namespace Sg
open Go Go.RowKit
section
variable {P : Program} {t e e' : TypeId} {α : Type} {r : Rp α}
theorem JdL {hf : Fl r} {n c m : Nat} (b : Nat) : (t2 hf e e' (some ⟨b, 0, none⟩) n c (fun _ => (none, 0)) (List.replicate m ([] : List α))).fp = [b] := by
 simp only [t2, Ent.fp, t2fp0]; simp [pb]
theorem alMake2 (hf : Fl r) {by_ : Nat} (ht : P.underlying t = some (.slice e)) (he : ti P e = some (some (.slice none 0 0), 1, by_)) {m : Int} (h0 : 0 ≤ m) (hb0 : m ≤ 1099511627776) (hby : by_ ≤ 128) {σ : Nat → Value} {x y : Operand} {ty : TypeId} (hx : ev σ x = .int .i64 m) (hy : ev σ y = .int .i64 m) :
  AlE P (.makeSlice t x y) ty σ (fun b => .slice (some ⟨b, 0, none⟩) m.toNat m.toNat) (fun b => t2 hf e e' (some ⟨b, 0, none⟩) m.toNat m.toNat (fun _ => (none, 0)) (List.replicate m.toNat ([] : List α))) := by
 obtain ⟨k, rfl⟩ := Int.eq_ofNat_of_zero_le h0
 obtain ⟨i, hi, hz1, hz2, hz3⟩ := J5P he
 have hn' : (k : Int) ≤ 140737488355328 := by omega
 have hb : i.bytes * k ≤ 281474976710656 := by
  rw [hz3]
  have h1 : by_ * k ≤ 128 * 1099511627776 := Nat.mul_le_mul hby (by omega)
  omega
 have hcells : (madeCells (Value.slice none 0 0).cells (k * 1)).toList = hcells (fun _ => (none, 0)) (List.replicate k ([] : List α)) := by
  apply List.ext_getElem
  ·simp [size_madeCells]
  ·intro m h1 h2
   have hm : m < k := by simpa using h2
   rw [J46 (by simpa using hm)]
   simp only [hcell, J0f _ _ hm, List.length_nil]
   have := J62 (.slice none 0 0) 1 k rfl (by decide) m hm 0 (by decide)
   simp only [Nat.mul_one, Nat.add_zero] at this h1 ⊢
   rw [List.getElem?_eq_getElem h1] at this
   simpa [Value.cells] using this
 refine AlE.of (fun b => JdL b) fun w => ?_
 obtain ⟨w2, hr, hown, hg⟩ := run_make_full (P := P) w w.heap.size t e i (.slice none 0 0) 1 ht hi hz1 hz2 .i64 .i64 k hb (by simp only [maxLen]; omega) (Nat.le_refl _)
 refine ⟨w2, .inl ?_, Same.grown hg, ⟨?_, ?_, ?_, fun q hq => ?_⟩, ?_⟩
 ·simp [execOp, opr, hx, hy, hr]
 ·simp only [Int.toNat_natCast]; rw [← hcells]; exact hown
 ·simp
 ·simp only [List.length_replicate, mx]; omega
 ·simp only [Int.toNat_natCast, List.length_replicate] at hq ⊢
  rw [J0f _ _ hq]
  exact ⟨[], World.ownsRow_nil w2 w.heap.size e' r.sz, Els.nil _ _ _⟩
 ·exact (World.ownsRow.lt hown w.heap.size rfl).2
end
end Sg
namespace Sg
open Go
theorem GoT.inlX {xs : List Nat} {T : World → World → Prop} {P : Program} {f n : Nat} {L : List Oper} {k : List Item} {R : Value → World → Prop} {t : Tr} {σ : Nat → Value} {w : World} {i : Nat} {ty : TypeId} {g m : Nat} {fn : Func} {c : Code} {x : Operand} {ys : List Operand} {vs caps : List Value} {ts : Array TypeId} {d : Option Nat} {pos : String} {aft : Array Edge} {gg : Option (Nat × Bool)}
  (hi : nth L i = some ⟨d, .call { callee := .value x, args := ys.toArray, argTypes := ts }, ty, pos, aft, gg⟩)
  (hx : ev σ x = .func (.func g) #[] caps.toArray) (hl : ys.map (ev σ) = vs) (hb : Body P g) (hf : P.funcs[g]? = some fn) (hbody : fn.body = some c) (hn : fn.ntmps = m) (hle : Nat.ble (vs ++ caps).length m = true) (hg : gd L σ gg = true) (hd : dOk n d = true) (hs : xs.contains i = true)
  (h : ∀ R1 : Value → World → Prop, (∀ v w', GoT xs T P f n L k R t (putS σ d v) w' → R1 v w') → Go1 P g m [.code c] (initσ (vs ++ caps)) w R1) :
  GoT xs T P f n L k R (.alt i t .fin) σ w :=
 GoT.callX (R1 := fun v w' => GoT xs T P f n L k R t (putS σ d v) w') hi (J5n hb hx hl (CallsV.of hf hbody hn hle (h _ fun _ _ h1 => h1))) hs hg hd fun _ _ h => h
end Sg
namespace Sg
open Go Go.RowKit
theorem t2makeS {P : Program} {w : World} {t e e' : TypeId} {A : List Nat} {E : List Ent} {n0 : Nat} {α : Type} {r : Rp α} (hf : Fl r) {by_ : Nat} (ht : P.underlying t = some (.slice e)) (he : ti P e = some (some (.slice none 0 0), 1, by_)) (hO : Owns n0 w E A) {m : Int} (h0 : 0 ≤ m) (hb0 : m ≤ 1099511627776) (hby : by_ ≤ 128) :
  ∃ w' q, Stp n0 A w E w' (t2 hf e e' q m.toNat m.toNat (fun _ => (none, 0)) (List.replicate m.toNat ([] : List α)) :: E) ∧ Same w w' ∧
   (∀ {σ : Nat → Value} {x y : Operand} {ty : TypeId}, ev σ x = .int .i64 m → ev σ y = .int .i64 m → OpV P (.makeSlice t x y) ty σ w (.slice q m.toNat m.toNat) w') ∧ q.isNone = false := by
 obtain ⟨k, rfl⟩ := Int.eq_ofNat_of_zero_le h0
 obtain ⟨i, hi, hz1, hz2, hz3⟩ := J5P he
 have hn' : (k : Int) ≤ 140737488355328 := by omega
 have hb : i.bytes * k ≤ 281474976710656 := by
  rw [hz3]
  have h1 : by_ * k ≤ 128 * 1099511627776 := Nat.mul_le_mul hby (by omega)
  omega
 obtain ⟨w2, hr, hown, hg⟩ := run_make_full (P := P) w n0 t e i (.slice none 0 0) 1 ht hi hz1 hz2 .i64 .i64 k hb (by simp only [maxLen]; omega) hO.le
 have hcells : (madeCells (Value.slice none 0 0).cells (k * 1)).toList = hcells (fun _ => (none, 0)) (List.replicate k ([] : List α)) := by
  apply List.ext_getElem
  ·simp [size_madeCells]
  ·intro m h1 h2
   have hm : m < k := by simpa using h2
   rw [J46 (by simpa using hm)]
   simp only [hcell, J0f _ _ hm, List.length_nil]
   have := J62 (.slice none 0 0) 1 k rfl (by decide) m hm 0 (by decide)
   simp only [Nat.mul_one, Nat.add_zero] at this h1 ⊢
   rw [List.getElem?_eq_getElem h1] at this
   simpa [Value.cells] using this
 refine ⟨w2, some ⟨w.heap.size, 0, none⟩, Stp.new hO (Same.grown hg) ?_ (fun b hb => ?_) ⟨?_, ?_, ?_, fun q hq => ?_⟩, Same.grown hg, fun hx hy => .inl ?_, rfl⟩
 ·simp only [t2, Ent.fp, t2fp0]; simp [pb]
 ·simp only [t2, Ent.fp, t2fp0] at hb; simp [pb] at hb; omega
 ·simp only [Int.toNat_natCast]; rw [← hcells]; exact hown
 ·simp
 ·simp only [List.length_replicate, mx]; omega
 ·simp only [Int.toNat_natCast, List.length_replicate] at hq ⊢
  rw [J0f _ _ hq]
  exact ⟨[], World.ownsRow_nil w2 n0 e' r.sz, Els.nil _ _ _⟩
 ·simp [execOp, opr, hx, hy, hr]
end Sg
