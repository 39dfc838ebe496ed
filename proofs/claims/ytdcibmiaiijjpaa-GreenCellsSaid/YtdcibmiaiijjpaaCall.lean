/- -/
import Derived.Test.YtdcibmiaiijjpaaIter
namespace Sg
open Go Go.RowKit
set_option linter.unusedVariables false
set_option linter.unusedSimpArgs false
section
variable {P : Program} {σ : Nat → Value} {w : World} {t t' ty e : TypeId} {x y z : Operand} {A : List Nat} {E : List Ent} {n0 : Nat}
theorem oapp2 {α : Type} {r : Rp α} {z : Value} {by_ : Nat} (ht : P.underlying t = some (.slice e)) (he : ti P e = some (some z, r.sz, by_)) (hzs : z.cells.size = r.sz)
    {p : Option Addr} {n c : Nat} {vs : List Value} {xs : List α} (j : Nat) (hO : Owns n0 w E A) (hj : E[j]? = some (.row e r.sz p n c vs)) (hE : Els r (bl E ++ A) w vs xs)
    {q : Option Addr} {m d : Nat} {ys : List α} (hs : ISl r (bl E ++ A) w q d ys) (hm : m = ys.length) (hb0 : xs.length + ys.length ≤ 1099511627776) (hby : by_ ≤ 128) :
    ∃ w' p' c' vs', Stp n0 A w E w' (E.set j (.row e r.sz p' (n + m) c' vs')) ∧ Els r (bl (E.set j (.row e r.sz p' (n + m) c' vs')) ++ A) w' vs' (xs ++ ys) ∧
      (p' = p ∨ ISl r (bl (E.set j (.row e r.sz p' (n + m) c' vs')) ++ A) w' p c xs) ∧
      ∀ {σ : Nat → Value} {x y : Operand} {ty : TypeId}, ev σ x = .slice p n c → ev σ y = .slice q m d → OpV P (.call { callee := .builtin .append, args := #[x, y], argTypes := #[t, t] }) ty σ w (.slice p' (n + m) c') w' := by
  obtain ⟨i, hi, hz1, hz2, hz3⟩ := J2Y he
  have hh := hO.at_ _ (List.mem_of_getElem? hj)
  have hn := hE.n_eq hh
  have hb : (xs.length + ys.length) * by_ ≤ 140737488355328 := by
    have h1 : (xs.length + ys.length) * by_ ≤ 1099511627776 * 128 := Nat.mul_le_mul hb0 hby
    omega
  have hl : xs.length + ys.length ≤ 140737488355328 := by omega
  subst hm
  cases q with
  | none =>
    have hd := hs.nil rfl
    have hys : ys = [] := List.eq_nil_of_length_eq_zero (by have := hs.cap; omega)
    subst hys
    refine ⟨w, p, c, vs, ?_, ?_, .inl rfl, fun hx hy => .inl ?_⟩
    · have he2 : E.set j (.row e r.sz p (n + ([] : List α).length) c vs) = E := by
        have hjl : j < E.length := (List.getElem?_eq_some_iff.1 hj).1
        have hje : E[j] = .row e r.sz p n c vs := (List.getElem?_eq_some_iff.1 hj).2
        show E.set j (.row e r.sz p n c vs) = E
        rw [← hje]; simp
      rw [he2]
      exact Stp.same hO (Same.refl w)
    · have he2 : E.set j (.row e r.sz p (n + ([] : List α).length) c vs) = E := by
        have hjl : j < E.length := (List.getElem?_eq_some_iff.1 hj).1
        have hje : E[j] = .row e r.sz p n c vs := (List.getElem?_eq_some_iff.1 hj).2
        show E.set j (.row e r.sz p n c vs) = E
        rw [← hje]; simp
      rw [he2, List.append_nil]
      exact hE
    · subst hd
      have hle := (J20 hh).1
      simp [execOp, opr, hx, hy, resolve, invoke, builtin, Builtin.append_, run_underlying ht, Go.sizeOf, typeInfo, hi, Builtin.lenOf, Builtin.firstCells, hle]
      cases p <;> simp [storeCells]
  | some a =>
    obtain ⟨us, hU, hcells, hone⟩ := hs.cells
    obtain ⟨v', w', hr, hown, hg, _⟩ := run_append_own (P := P) w n0 t t e i z r.sz by_ ht hi hz1 hz2 hz3 hzs r.pos (.slice p n c) n vs hh a ys.length d us hU.len hcells hone
      (by rw [hn]; simp only [maxLen]; omega) (by rw [hn]; exact hb) hO.le
    obtain ⟨p', c', rfl⟩ : ∃ p' c', v' = .slice p' (n + ys.length) c' := by
      rcases hown.2 with ⟨rfl, h0⟩ | ⟨g, cap, cur, rfl, _⟩
      · exact ⟨none, 0, by rw [h0]⟩
      · exact ⟨_, _, rfl⟩
    have hmv : p' = p ∨ ((∀ b, b < w.heap.size → w'.heap[b]? = w.heap[b]?) ∧ ∀ b, p' = some b → w.heap.size ≤ b.block) := by
      rcases hh.2 with ⟨hv, h0⟩ | ⟨g, cap, cur, hv, hbg, hgg, hnc, hcm, hcs, htake⟩
      · cases hv
        obtain ⟨v2, w2, hr2, hown2, _, _⟩ := run_append_own (P := P) w w.heap.size t t e i z r.sz by_ ht hi hz1 hz2 hz3 hzs r.pos (.slice none 0 0) 0 [] (World.ownsRow_nil w _ e r.sz) a ys.length d us hU.len hcells hone
          (by simp only [maxLen]; omega) (by refine Nat.le_trans (Nat.mul_le_mul_right _ ?_) hb; omega) (Nat.le_refl _)
        rw [hr] at hr2
        cases hr2
        rcases hown2.2 with ⟨hv2, _⟩ | ⟨g2, _, _, hv2, hb2, _⟩
        · have h := (Value.slice.inj hv2).1; exact .inl h
        · have h := (Value.slice.inj hv2).1; rw [h]; exact .inr ⟨fun b hb => hg.block b hb (by simp [Value.ownBlock]), fun b hb => by cases hb; exact hb2⟩
      · cases hv
        by_cases hroom : n + ys.length ≤ c
        · have hfit : n * i.size + us.length ≤ cur.size := by rw [hU.len, hcs, hz2, ← Nat.add_mul]; exact Nat.mul_le_mul_right _ hroom
          have hr2 := run_append_room (P := P) w t t e i ht hi g n c cur hgg a ys.length d us (by rw [hz2]; exact hU.len) hcells hone hroom hfit
          rw [hr] at hr2
          cases hr2
          exact .inl rfl
        · have holds : ∀ j u, vs[j]? = some u → w.cell? ((⟨g, 0, none⟩ : Addr).add j) = some u := World.ownsRow.cells hh (g := g) rfl
          have hr2 := run_append_grow (P := P) w t t e i z ht hi hz1 ⟨g, 0, none⟩ n c vs (by rw [hz2]; exact hh.1) holds a ys.length d us (by rw [hz2]; exact hU.len) hcells (by omega) (by omega) (growslice_fits (by omega) (by rw [hz3, hn]; exact hb))
          rw [hr] at hr2
          cases hr2
          exact .inr ⟨fun b hb => Below.heap_alloc w.drew _ b hb, fun b hb => by cases hb; exact Nat.le_refl _⟩
    have hst : Stp n0 A w E w' (E.set j (.row e r.sz p' (n + ys.length) c' (vs ++ us))) := by
      refine Stp.grown j hO hj hg hown fun b hpb => ?_
      rcases hmv with h | h
      · exact .inl h
      · exact .inr (h.2 b hpb)
    have hold : p' = p ∨ ISl r (bl (E.set j (.row e r.sz p' (n + ys.length) c' (vs ++ us))) ++ A) w' p c xs := by
      rcases hmv with h | ⟨h1, h2⟩
      · exact .inl h
      · obtain ⟨_, _, hI, _⟩ := freeze j hO hj hE
        refine .inr (hI.ch ⟨hst.ch.size, fun b hb hnb => ⟨h1 b hb, fun hx => hnb ?_⟩⟩)
        rcases List.mem_append.1 hx with hx | hx
        · obtain ⟨e1, he1, hbe⟩ := J39.1 hx
          obtain ⟨m, hm, hme⟩ := List.getElem_of_mem he1
          rw [List.getElem_set] at hme
          split at hme
          · subst hme
            cases p' with
            | none => simp [Ent.fp] at hbe
            | some a' =>
              simp only [Ent.fp, List.mem_singleton] at hbe
              have := h2 a' rfl
              omega
          · rename_i hne
            refine List.mem_append_left _ (J39.2 ⟨e1, ?_, hbe⟩)
            rw [List.length_set] at hm
            rw [← hme]
            exact List.mem_eraseIdx_iff_getElem.2 ⟨m, hm, fun h => hne h.symm, rfl⟩
        · exact List.mem_append_right _ hx
    refine ⟨w', p', c', vs ++ us, hst, (hE.append hU (by simp only [mx]; omega)).ch hst.ch, hold, fun {σ x y ty} hx hy => .inl ?_⟩
    have hr' : (Builtin.append_ #[t, t] ty #[.slice p n c, .slice (some a) ys.length d]).run P w = .ok (.slice p' (n + ys.length) c') w' := hr
    simp [execOp, opr, hx, hy, resolve, invoke, builtin, hr']
def AL {α : Type} (r : Rp α) (B : List Nat) (w : World) (pn : Option Addr) (xs : List α) (p : Option Addr) (c : Nat) (ys : List α) : Prop :=
 ISl r B w p c ys ∨ (p = pn ∧ (∃ zs, xs = ys ++ zs) ∧ ys.length ≤ c ∧ (p = none → c = 0))
theorem AL.ch {α : Type} {r : Rp α} {B B' : List Nat} {w w' : World} {pn p : Option Addr} {c : Nat} {xs ys : List α} (h : AL r B w pn xs p c ys) (hc : Ch B w B' w') : AL r B' w' pn xs p c ys :=
 h.imp (fun h => h.ch hc) id
theorem ISl.take {α : Type} {r : Rp α} {B : List Nat} {w : World} {p : Option Addr} {c : Nat} {xs : List α} (h : ISl r B w p c xs) (k : Nat) : ISl r B w p c (xs.take k) := by
 refine ⟨Nat.le_trans (by simp; omega) h.cap, Nat.le_trans (by simp; omega) h.bd, h.nil, fun a ha j hj => ?_⟩
 simp only [List.length_take] at hj
 have := h.at_ a ha j (by omega)
 simpa using this
theorem AL.app {α : Type} {r : Rp α} {B B' : List Nat} {w w' : World} {pn pn' p : Option Addr} {c cn : Nat} {xs ys us : List α} (h : AL r B w pn xs p c ys) (hc : Ch B w B' w') (hold : pn' = pn ∨ ISl r B' w' pn cn xs) : AL r B' w' pn' (xs ++ us) p c ys := by
 rcases h with h | ⟨h1, ⟨zs, h2⟩, h4, h5⟩
 ·exact .inl (h.ch hc)
 ·rcases hold with h3 | h3
  ·exact .inr ⟨h1.trans h3.symm, ⟨zs ++ us, by rw [h2, List.append_assoc]⟩, h4, h5⟩
  ·left
   have := h3.take ys.length
   rw [h2, List.take_left'] at this
   ·rw [h1] at h5 ⊢; exact ⟨h4, this.bd, h5, this.at_⟩
   ·rfl
theorem AL.start {α : Type} {r : Rp α} {p : Option Addr} {m c : Nat} {vs : List Value} {xs : List α} (j : Nat) (hO : Owns n0 w E A) (hj : E[j]? = some (.row e r.sz p m c vs)) (hE : Els r (bl E ++ A) w vs xs) (k : Nat) : AL r (bl E ++ A) w p xs p c (xs.take k) := by
 have hh := hO.at_ _ (List.mem_of_getElem? hj)
 have hn := hE.n_eq hh
 have hle := (J20 hh).1
 refine .inr ⟨rfl, ⟨xs.drop k, (List.take_append_drop k xs).symm⟩, by simp; omega, fun hp => ?_⟩
 subst hp
 rcases hh.2 with ⟨hv, _⟩ | ⟨g, cap, cur, hv, _⟩
 ·cases hv; rfl
 ·cases hv
theorem takeLen {α : Type} {xs : List α} {h : Int} (h0 : 0 ≤ h) (h1 : h ≤ xs.length) : h.toNat = (xs.take h.toNat).length := by simp; omega
theorem J4k {p : Option Addr} {m c : Nat} {h : Int} {kk : IntKind} {zz : Option Value} {sz bb : Nat} (ht : P.underlying t = some (.slice e)) (he : ti P e = some (zz, sz, bb)) (hx : ev σ x = .slice p m c) (hy : ev σ y = .int kk h) (h0 : 0 ≤ h) (h1 : h ≤ c) (w : World) :
  OpV P (.slice t x none (some y) none) ty σ w (.slice p h.toNat c) w := .inl (by
 have hs := fun w => run_sizeOf he w
 have h2 : h ≤ (c : Int) := h1
 have hp : Option.map (fun a : Addr => a.add 0) p = p := by cases p <;> simp [Addr.add_zero']
 by_cases hc : c = 0
 ·subst hc
  obtain rfl : h = 0 := by omega
  simp [execOp, opr, hx, hy, Instr.sliceAt, Instr.slice, Instr.sliceBounds, Instr.sliceBound, run_underlying ht, asIntOf, hs]
 ·simp [execOp, opr, hx, hy, Instr.sliceAt, Instr.slice, Instr.sliceBounds, Instr.sliceBound, run_underlying ht, asIntOf, h0, h2, hs, hc, hp])
theorem Els.lec {α : Type} {r : Rp α} {p : Option Addr} {m c : Nat} {vs : List Value} {xs : List α} (j : Nat) (hO : Owns n0 w E A) (hj : E[j]? = some (.row e r.sz p m c vs)) (hE : Els r (bl E ++ A) w vs xs) {h : Int} (h1 : h ≤ xs.length) : h ≤ c := by
 have hh := hO.at_ _ (List.mem_of_getElem? hj)
 have hn := hE.n_eq hh
 have hle := (J20 hh).1
 omega
theorem AL.some_ {α : Type} {r : Rp α} {B : List Nat} {pn p : Option Addr} {c : Nat} {xs ys : List α} (h : AL r B w pn xs p c ys) {i : Int} (h0 : 0 ≤ i) (h1 : i < ys.length) : p.isSome = true := by
 rcases h with h | ⟨_, _, h4, h5⟩
 ·exact h.some_ h0 h1
 ·cases p with
  | some a => rfl
  | none => have := h5 rfl; omega
theorem J6i {α : Type} [Inhabited α] {ys zs : List α} {i : Int} (h0 : 0 ≤ i) (h1 : i < ys.length) : ix (ys ++ zs) i = ix ys i := by
 rw [ix_eq (by simp; omega), ix_eq (by omega), List.getElem_append_left]
theorem AL.int {k : IntKind} {p : Option Addr} {m c cc : Nat} {vs : List Value} {xs ys : List Int} {pa : Option Addr} (j : Nat) (hO : Owns n0 w E A) (hj : E[j]? = some (.row e 1 p m c vs)) (hE : Els (Rp.int k) (bl E ++ A) w vs xs) (h : AL (Rp.int k) (bl E ++ A) w p xs pa cc ys)
  {i : Int} (h0 : 0 ≤ i) (h1 : i < ys.length) {d : TypeDesc} (ht : P.underlying t = some d) (hd : scB d = true) (hx : ev σ x = .pointer (padd pa (i.toNat * 1))) (w' : World) (hw : Same w w') : OpV P (.load t x) ty σ w' (.int k (ix ys i)) w' := by
 rcases h with h | ⟨h2, ⟨zs, h3⟩, _, _⟩
 ·exact ldInt h h0 h1 ht hd hx w' hw
 ·subst h2
  have := oldInt (i := i) j hO hj hE h0 (by rw [h3]; simp; omega) ht hd hx w' hw (ty := ty)
  rwa [h3, J6i h0 h1] at this
end
section
variable {P : Program} {f n : Nat} {k : List Item} {σ : Nat → Value} {w w' : World} {R : Value → World → Prop} {L l : List Oper} {s0 s : List (Nat × Md)} {i : Nat}
variable {t t' ty e : TypeId} {x y z : Operand} {A : List Nat} {E : List Ent} {n0 : Nat}
theorem J3a {g : FuncId} {xs : List Operand} {vs caps : List Value} {ts : Array TypeId} {R1 : Value → World → Prop} (hb : Body P g) (hx : ev σ x = .func (.func g) #[] caps.toArray) (hl : xs.map (ev σ) = vs) (hc : CallsV P g (vs ++ caps).toArray w R1) :
  OpC P (.call { callee := .value x, args := xs.toArray, argTypes := ts }) ty σ w R1 := by
 refine ⟨g, (vs ++ caps).toArray, ?_, hc⟩
 subst hl
 simp [execOp, opr, resolve, hx, Deferred.ofValue, invoke, J3A hb]
theorem GoR.inl {g m : Nat} {fn : Func} {c : Code} {xs : List Operand} {vs caps : List Value} {ts : Array TypeId} {d : Option Nat} {pos : String} {aft : Array Edge} {gg : Option (Nat × Bool)}
  (hx : ev σ x = .func (.func g) #[] caps.toArray) (hl : xs.map (ev σ) = vs) (hb : Body P g) (hf : P.funcs[g]? = some fn) (hbody : fn.body = some c) (hn : fn.ntmps = m) (hle : Nat.ble (vs ++ caps).length m = true) (hg : gd L σ gg = true) (hd : dOk n d = true)
  (h : ∀ R1 : Value → World → Prop, (∀ v w', GoR P f n L l k (putS σ d v) w' R → R1 v w') → Go1 P g m [.code c] (initσ (vs ++ caps)) w R1) :
  GoR P f n L (⟨d, .call { callee := .value x, args := xs.toArray, argTypes := ts }, ty, pos, aft, gg⟩ :: l) k σ w R :=
 GoR.call (J3a hb hx hl (CallsV.of hf hbody hn hle (h _ fun _ _ h => h))) hg hd fun _ _ h => h
theorem GoQ.inl {g m : Nat} {fn : Func} {c : Code} {xs : List Operand} {vs caps : List Value} {ts : Array TypeId} {d : Option Nat} {pos : String} {aft : Array Edge} {gg : Option (Nat × Bool)}
  (hi : nth L i = some ⟨d, .call { callee := .value x, args := xs.toArray, argTypes := ts }, ty, pos, aft, gg⟩)
  (hx : ev σ x = .func (.func g) #[] caps.toArray) (hl : xs.map (ev σ) = vs) (hb : Body P g) (hf : P.funcs[g]? = some fn) (hbody : fn.body = some c) (hn : fn.ntmps = m) (hle : Nat.ble (vs ++ caps).length m = true) (hg : gd L σ gg = true) (hd : dOk n d = true)
  (h : ∀ R1 : Value → World → Prop, (∀ v w', GoQ P f n L s0 k R s (putS σ d v) w' → R1 v w') → Go1 P g m [.code c] (initσ (vs ++ caps)) w R1) :
  GoQ P f n L s0 k R ((i, .last) :: s) σ w :=
 GoQ.callLast hi (J3a hb hx hl (CallsV.of hf hbody hn hle (h _ fun _ _ h => h))) hg hd fun _ _ h => h
theorem Go1.fin0V {fn : Func} (hf : P.funcs[f]? = some fn) (hr : fn.results = #[]) (h : R (.tuple #[]) w) : Go1 P f n [] σ w R := Go1.fin0 hf hr h
theorem natbd {k m : Nat} (h : (k : Int) < (m : Int)) (hb : m ≤ mx) : I64 ((k : Int) + 1) := by unfold mx at hb; exact ⟨by omega, by omega⟩
theorem J3V {g : FuncId} {xs : List Operand} {vs : List Value} (hl : xs.map (ev σ) = vs) (w : World) : OpV P (.makeFunc (.func g) #[] xs.toArray) ty σ w (.func (.func g) #[] vs.toArray) w := .inl (by
 subst hl
 simp [execOp, opr, Instr.makeFunc])
theorem J1M {zv : Value} {b s : Nat} (he : ti P t = some (some zv, s, b)) (w : World) : (zeroValue t).run P w = .ok zv w := by
 obtain ⟨i, hi, hz1, hz2, hz3⟩ := J2Y he
 simp [zeroValue, typeInfo, hi, hz1]
theorem oalloc {zv : Value} {cs : Array Value} {b s : Nat} (he : ti P t = some (some zv, s, b)) (hO : Owns n0 w E A) (hc : zv.cells = cs) :
  ∃ w' B, Stp n0 A w E w' (.blk B (.cells cs t (0, 0)) :: E) ∧ Same w w' ∧ ∀ {σ : Nat → Value} {ty : TypeId}, OpV P (.alloc t) ty σ w (.pointer (some ⟨B, 0, none⟩)) w' := by
 have hs : Same w (w.alloc (.cells cs t (0, 0))) := ⟨rfl, rfl, rfl, by simp, fun k hk => Below.heap_alloc _ _ _ hk⟩
 refine ⟨w.alloc (.cells cs t (0, 0)), w.heap.size, Stp.new hO hs (by simp [Ent.fp]) (fun b hb => by simp [Ent.fp] at hb; omega) ⟨hO.le, heap_alloc_new w _⟩, hs, .inl ?_⟩
 subst hc
 simp [execOp, opr, Instr.alloc, J1M he, newVar, newRow]
end
end Sg
