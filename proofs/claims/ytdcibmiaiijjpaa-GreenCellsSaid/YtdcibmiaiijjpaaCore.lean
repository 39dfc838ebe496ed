/- -/
import Derived.Still
import Derived.Deep.Draws
namespace Sg
open Go
set_option linter.unusedVariables false
set_option linter.unusedSimpArgs false
def upd (σ : Nat → Value) (d : Nat) (v : Value) : Nat → Value := fun i => Bool.casesOn (motive := fun _ => Value) (Nat.beq i d) (σ i) v
def ev (σ : Nat → Value) : Operand → Value
 | .tmp t => σ t
 | .const v => v
 | .global g => .pointer (some ⟨g, 0, none⟩)
 | .func f => .func (.func f) #[] #[]
structure Fits (n : Nat) (a : Act) (σ : Nat → Value) : Prop where
 df : a.defers = []
 sz : a.tmps.size = n
 rd : ∀ i, a.tmps.getD i undef = σ i
theorem J6O (σ : Nat → Value) (d : Nat) (v : Value) (i : Nat) : upd σ d v i = if i = d then v else σ i := by
 unfold upd
 by_cases h : i = d
 ·subst h; simp
 ·have : Nat.beq i d = false := by rw [Bool.eq_false_iff]; intro hb; exact h (Nat.eq_of_beq_eq_true hb)
  rw [this, if_neg h]
theorem Fits.eval {n : Nat} {a : Act} {σ : Nat → Value} (h : Fits n a σ) : a.eval = ev σ := by
 funext x
 cases x with
 | tmp t => exact h.rd t
 | _ => rfl
theorem Fits.put {n : Nat} {a : Act} {σ : Nat → Value} (h : Fits n a σ) {d : Nat} (hd : Nat.blt d n = true) (v : Value) :
  Fits n (a.put (some d) v) (upd σ d v) := by
 have hd' : d < n := by simpa [Nat.blt_eq] using hd
 refine ⟨h.df, by simp [Act.put, h.sz], fun i => ?_⟩
 rw [J6O]
 by_cases hi : i = d
 ·subst hi; simp [Act.put, h.sz, hd']
 ·rw [if_neg hi, ← h.rd i]; simp [Act.put, Array.getElem?_setIfInBounds_ne (Ne.symm hi)]
def setAll (σ : Nat → Value) : List (Nat × Value) → Nat → Value
 | [] => σ
 | p :: l => upd (setAll σ l) p.1 p.2
def agrees (σ : Nat → Value) : List (Nat × Value) → Prop
 | [] => True
 | p :: l => σ p.1 = p.2 ∧ agrees σ l
theorem J11 (σ : Nat → Value) : ∀ l : List (Nat × Value), agrees σ l → setAll σ l = σ
  | [], _ => rfl
  | p :: l, h => by
    funext i
    simp only [setAll, J11 σ l h.2, J6O]
    by_cases hi : i = p.1
    · subst hi; rw [if_pos rfl]; exact h.1.symm
    · rw [if_neg hi]
def bs (f : FuncId) : Frame := { (default : Frame) with fn := f, kind := .normal }
def Cont (P : Program) (f : FuncId) (k : List Item) (R : Value → World → Prop) (a : Act) (w : World) : Prop :=
 ∀ cs, ∃ v w' fr, R v w' ∧ Steps P (lone ((bs f).at a k) cs w) (lone fr cs w') ∧ fr.fn = f ∧ fr.leaving P w' (.returned v)
def Go1 (P : Program) (f n : Nat) (k : List Item) (σ : Nat → Value) (w : World) (R : Value → World → Prop) : Prop :=
 ∀ a, Fits n a σ → Cont P f k R a w
def CallsV (P : Program) (f : FuncId) (args : Array Value) (w : World) (R : Value → World → Prop) : Prop :=
 Calls P f args w fun e w' => ∃ v, e = .returned v ∧ R v w'
theorem CallsV.mono {P : Program} {f : FuncId} {args : Array Value} {w : World} {R R' : Value → World → Prop} (h : CallsV P f args w R) (hr : ∀ v w', R v w' → R' v w') : CallsV P f args w R' :=
 Calls.mono h fun _ _ ⟨v, he, hv⟩ => ⟨v, he, hr _ _ hv⟩
def initσ (args : List Value) : Nat → Value := fun i => args.getD i undef
theorem CallsV.of {P : Program} {f n : Nat} {fn : Func} {c : Code} {l : List Value} {w : World} {R : Value → World → Prop}
  (hf : P.funcs[f]? = some fn) (hb : fn.body = some c) (hn : fn.ntmps = n) (hl : Nat.ble l.length n = true)
  (h : Go1 P f n [.code c] (initσ l) w R) : CallsV P f l.toArray w R := by
 intro cs
 have hl' : l.length ≤ n := by simpa using hl
 have henter : Frame.enter P f l.toArray .normal =
   (bs f).at { tmps := l.toArray ++ Array.replicate (n - l.length) undef, defers := [] } [.code c] := by
  simp [Frame.enter, Frame.at, hf, hb, bs, hn]
 have hfit : Fits n { tmps := l.toArray ++ Array.replicate (n - l.length) undef, defers := [] } (initσ l) := by
  refine ⟨rfl, by simp; omega, fun i => ?_⟩
  simp only [initσ]
  by_cases hi : i < l.length
  ·simp [Array.getElem?_append, hi, List.getD_eq_getElem?_getD]
  ·simp only [Array.getD_eq_getD_getElem?, Array.getElem?_append, List.size_toArray, hi, if_false, List.getD_eq_getElem?_getD, List.getElem?_eq_none (Nat.le_of_not_lt hi), Option.getD_none, Array.getElem?_replicate]
   split <;> rfl
 obtain ⟨v, w', fr, hR, hs, hfn, hl⟩ := h _ hfit cs
 rw [← henter] at hs
 exact ⟨.returned v, w', fr, ⟨v, rfl, hR⟩, hs, hfn, hl⟩
section rules
variable {P : Program} {f n : Nat} {k : List Item} {σ : Nat → Value} {w : World} {R : Value → World → Prop}
theorem Cont.step {k k' : List Item} {a a' : Act} {w' : World}
  (hs : ∀ cs, step P (lone ((bs f).at a k) cs w) = .next (lone ((bs f).at a' k') cs w')) (h : Cont P f k' R a' w') : Cont P f k R a w :=
 fun cs => let ⟨v, w', fr, hR, hst, r⟩ := h cs; ⟨v, w', fr, hR, .head (hs cs) hst, r⟩
theorem Go1.seq {x y : Code} (h : Go1 P f n (.code x :: .code y :: k) σ w R) : Go1 P f n (.code (.seq x y) :: k) σ w R :=
 fun a ha => .step (fun _ => step_seq) (h a ha)
theorem Go1.skip (h : Go1 P f n k σ w R) : Go1 P f n (.code .skip :: k) σ w R := fun a ha => .step (fun _ => step_skip) (h a ha)
theorem Go1.label {l : Nat} (h : Go1 P f n k σ w R) : Go1 P f n (.code (.label l) :: k) σ w R := fun a ha => .step (fun _ => step_label) (h a ha)
theorem Go1.block {i : Nat} {c : Code} (h : Go1 P f n (.code c :: .inBlock i :: k) σ w R) : Go1 P f n (.code (.block i c) :: k) σ w R :=
 fun a ha => .step (fun _ => step_block) (h a ha)
theorem Go1.inBlock {i : Nat} (h : Go1 P f n k σ w R) : Go1 P f n (.inBlock i :: k) σ w R := fun a ha => .step (fun _ => step_inBlock) (h a ha)
theorem Go1.exit {i : Nat} {k' : List Item} (hk : exitTo i k = some k') (h : Go1 P f n k' σ w R) : Go1 P f n (.code (.exit i) :: k) σ w R :=
 fun a ha => .step (fun _ => step_exit hk) (h a ha)
theorem Go1.cond {c : Operand} {x y : Code} {t : Bool} (hc : ev σ c = .bool t) (h : Go1 P f n (.code (if t then x else y) :: k) σ w R) :
  Go1 P f n (.code (.cond c x y) :: k) σ w R :=
 fun a ha => .step (fun _ => step_cond (by rw [ha.eval]; exact hc)) (h a ha)
theorem Go1.condT {c : Operand} {x y : Code} {t : Bool} (hc : ev σ c = .bool t) (ht : t = true) (h : Go1 P f n (.code x :: k) σ w R) :
  Go1 P f n (.code (.cond c x y) :: k) σ w R := .cond hc (by rw [ht]; exact h)
theorem Go1.condF {c : Operand} {x y : Code} {t : Bool} (hc : ev σ c = .bool t) (ht : t = false) (h : Go1 P f n (.code y :: k) σ w R) :
  Go1 P f n (.code (.cond c x y) :: k) σ w R := .cond hc (by rw [ht]; exact h)
theorem Go1.loop {α : Type} {c : Code} (X : α → (Nat → Value) → World → Prop) (μ : α → Nat) (x : α) (h0 : X x σ w)
    (round : ∀ x σ w, X x σ w → (∀ x' σ' w', μ x' < μ x → X x' σ' w' → Go1 P f n (.inLoop c :: k) σ' w' R) → Go1 P f n (.code c :: .inLoop c :: k) σ w R) :
    Go1 P f n (.code (.loop c) :: k) σ w R := by
  have key : ∀ m x σ w, μ x = m → X x σ w → Go1 P f n (.code c :: .inLoop c :: k) σ w R := by
    intro m
    induction m using Nat.strongRecOn with
    | _ m ih =>
      intro x σ w hm hx
      exact round x σ w hx fun x' σ' w' hlt hx' a ha => .step (fun _ => step_inLoop) (ih (μ x') (hm ▸ hlt) x' σ' w' rfl hx' a ha)
  exact fun a ha => .step (fun _ => step_loop) (key _ x σ w rfl h0 a ha)
theorem Go1.again {c : Code} (h : Go1 P f n (.code c :: .inLoop c :: k) σ w R) : Go1 P f n (.inLoop c :: k) σ w R :=
 fun a ha => .step (fun _ => step_inLoop) (h a ha)
theorem Go1.keep (l : List (Nat × Value)) (hl : agrees σ l) (h : Go1 P f n k (setAll σ l) w R) : Go1 P f n k σ w R := by
 rw [J11 σ l hl] at h; exact h
theorem Cont.ret {a : Act} {k : List Item} {fn : Func} {v : Value} (hf : P.funcs[f]? = some fn) (hd : a.defers = []) (hv : (results fn a.tmps).run P w = .ok v w) (h : R v w) :
  Cont P f (.code .ret :: k) R a w :=
 fun _ => ⟨v, w, _, h, .one step_ret, rfl, rfl, hd, rfl, fn, hf, hv⟩
theorem Cont.fin {a : Act} {fn : Func} {v : Value} (hf : P.funcs[f]? = some fn) (hd : a.defers = []) (hv : (results fn a.tmps).run P w = .ok v w) (h : R v w) :
  Cont P f [] R a w :=
 fun _ => ⟨v, w, _, h, .one step_end, rfl, rfl, hd, rfl, fn, hf, hv⟩
theorem results1 {fn : Func} {r : Nat} (hr : fn.results = #[.tmp r]) (tmps : Array Value) : (results fn tmps).run P w = .ok (tmps.getD r undef) w := by
 simp [results, hr, pure, bind, Sem.bind]; rfl
theorem results2 {fn : Func} {r s : Nat} (hr : fn.results = #[.tmp r, .tmp s]) (tmps : Array Value) : (results fn tmps).run P w = .ok (.tuple #[tmps.getD r undef, tmps.getD s undef]) w := by
 simp [results, hr, pure, bind, Sem.bind]; rfl
theorem results4 {fn : Func} {r s t u : Nat} (hr : fn.results = #[.tmp r, .tmp s, .tmp t, .tmp u]) (tmps : Array Value) : (results fn tmps).run P w = .ok (.tuple #[tmps.getD r undef, tmps.getD s undef, tmps.getD t undef, tmps.getD u undef]) w := by
 simp [results, hr, pure, bind, Sem.bind]; rfl
theorem results0 {fn : Func} (hr : fn.results = #[]) (tmps : Array Value) : (results fn tmps).run P w = .ok (.tuple #[]) w := by
 simp [results, hr, pure, bind]; rfl
theorem Go1.fin0 {fn : Func} (hf : P.funcs[f]? = some fn) (hr : fn.results = #[]) (h : R (.tuple #[]) w) : Go1 P f n [] σ w R :=
 fun a ha => .fin hf ha.df (results0 hr a.tmps) h
theorem Go1.ret1 {fn : Func} {r : Nat} (hf : P.funcs[f]? = some fn) (hr : fn.results = #[.tmp r]) (h : R (σ r) w) : Go1 P f n (.code .ret :: k) σ w R :=
 fun a ha => .ret hf ha.df (results1 hr a.tmps) (by rw [ha.rd]; exact h)
theorem Go1.ret2 {fn : Func} {r s : Nat} (hf : P.funcs[f]? = some fn) (hr : fn.results = #[.tmp r, .tmp s]) (h : R (.tuple #[σ r, σ s]) w) : Go1 P f n (.code .ret :: k) σ w R :=
 fun a ha => .ret hf ha.df (results2 hr a.tmps) (by rw [ha.rd, ha.rd]; exact h)
theorem Go1.ret4 {fn : Func} {r s t u : Nat} (hf : P.funcs[f]? = some fn) (hr : fn.results = #[.tmp r, .tmp s, .tmp t, .tmp u]) (h : R (.tuple #[σ r, σ s, σ t, σ u]) w) : Go1 P f n (.code .ret :: k) σ w R :=
 fun a ha => .ret hf ha.df (results4 hr a.tmps) (by rw [ha.rd, ha.rd, ha.rd, ha.rd]; exact h)
end rules
def opr (op : Op) (ty : TypeId) : Oper := { dst := none, op, type := ty, pos := "", after := #[], guard := none }
def OpV (P : Program) (op : Op) (ty : TypeId) (σ : Nat → Value) (w : World) (v : Value) (w' : World) : Prop :=
 (execOp (ev σ) (opr op ty)).run P w = .ok (.value v) w' ∨ ((execOp (ev σ) (opr op ty)).run P w = .ok .skip w' ∧ v = undef)
def OpC (P : Program) (op : Op) (ty : TypeId) (σ : Nat → Value) (w : World) (R : Value → World → Prop) : Prop :=
 ∃ f args, (execOp (ev σ) (opr op ty)).run P w = .ok (.enter f args) w ∧ CallsV P f args w R
theorem J0H (ρ : Operand → Value) (o : Oper) : execOp ρ o = execOp ρ (opr o.op o.type) := rfl
def nth : List Oper → Nat → Option Oper
 | [], _ => none
 | o :: l, i => bif Nat.beq i 0 then some o else nth l (i - 1)
theorem J31 : ∀ (l : List Oper) (i : Nat), nth l i = l[i]?
  | [], i => by simp [nth]
  | o :: l, 0 => by simp [nth]
  | o :: l, i + 1 => by
    have : Nat.beq (i + 1) 0 = false := by rw [Bool.eq_false_iff]; intro hb; exact absurd (Nat.eq_of_beq_eq_true hb) (by omega)
    rw [nth, this]; simpa using J31 l i
def isB : Value → Bool → Bool
 | .bool b, want => b == want
 | _, _ => false
def gd (L : List Oper) (σ : Nat → Value) : Option (Nat × Bool) → Bool
  | none => true
  | some (j, want) => match nth L j with
    | some o => match o.dst with
      | some d => isB (σ d) want
      | none => false
    | none => false
theorem gd_eq {n : Nat} {a : Act} {σ : Nat → Value} (h : Fits n a σ) (L : List Oper) (o : Oper) :
    Region.wanted o (yielded L.toArray a.tmps) = gd L σ o.guard := by
  unfold Region.wanted
  cases hg : o.guard with
  | none => rfl
  | some p =>
    obtain ⟨j, want⟩ := p
    simp only [gd, yielded, J31, List.getElem?_toArray]
    cases hj : L[j]? with
    | none => simp
    | some oj =>
      simp only [Option.bind_some]
      cases hd : oj.dst with
      | none => simp
      | some d =>
        simp only [Option.bind_some]
        have hr := h.rd d
        simp only [Array.getD_eq_getD_getElem?] at hr
        cases ht : a.tmps[d]? with
        | none =>
          rw [ht] at hr
          rw [← hr]; simp [undef, isB]
        | some v =>
          rw [ht] at hr
          simp only [Option.getD_some] at hr
          rw [← hr]
          cases v <;> simp [isB]
def putS (σ : Nat → Value) (d : Option Nat) (v : Value) : Nat → Value := Option.casesOn (motive := fun _ => Nat → Value) d σ (fun d => upd σ d v)
def dOk (n : Nat) : Option Nat → Bool
 | some d => Nat.blt d n
 | none => true
theorem Fits.putO {n : Nat} {a : Act} {σ : Nat → Value} (h : Fits n a σ) {d : Option Nat} (hd : dOk n d = true) (v : Value) : Fits n (a.put d v) (putS σ d v) := by
 cases d with
 | none => exact h
 | some d => exact h.put hd v
def QN (P : Program) (f : Nat) (k : List Item) (R : Value → World → Prop) : Exit → Act → World → Prop := fun e a w => e = .normal ∧ Cont P f k R a w
def GoR (P : Program) (f n : Nat) (L l : List Oper) (k : List Item) (σ : Nat → Value) (w : World) (R : Value → World → Prop) : Prop :=
 ∀ a, Fits n a σ → ∀ idx : List Nat, idx.map (L[·]?) = l.map some → wpOps P L.toArray (QN P f k R) idx a w
theorem Cont.of_wp {P : Program} {f : Nat} {c : Code} {k : List Item} {R : Value → World → Prop} {a : Act} {w : World} (h : c.wp P (QN P f k R) a w) : Cont P f (.code c :: k) R a w := by
 intro cs
 obtain ⟨e, a', w', ⟨rfl, hc⟩, harr⟩ := h (bs f) k cs
 obtain ⟨v, w'', fr, hR, hs, r⟩ := hc cs
 exact ⟨v, w'', fr, hR, Steps.trans harr hs, r⟩
section region
variable {P : Program} {f n : Nat} {k : List Item} {σ : Nat → Value} {w w' : World} {R : Value → World → Prop} {L l : List Oper}
theorem Go1.region {i : Nat} (h : GoR P f n L L k σ w R) : Go1 P f n (.code (.region i L.toArray false) :: k) σ w R := by
 intro a ha
 refine Cont.of_wp (wp_region (h a ha _ ?_))
 apply List.ext_getElem?
 intro j
 by_cases hj : j < L.length
 ·simp [hj]
 ·simp [hj]
theorem GoR.nil (h : Go1 P f n k σ w R) : GoR P f n L [] k σ w R := by
 intro a ha idx hidx
 have : idx = [] := by simpa using hidx
 subst this
 exact ⟨rfl, h a ha⟩
theorem GoR.cons_inv {idx : List Nat} {o : Oper} {l : List Oper} (h : idx.map (L[·]?) = (o :: l).map some) :
    ∃ i rest, idx = i :: rest ∧ L[i]? = some o ∧ rest.map (L[·]?) = l.map some := by
  cases idx with
  | nil => simp at h
  | cons i rest =>
    simp only [List.map_cons, List.cons.injEq] at h
    exact ⟨i, rest, rfl, h.1, h.2⟩
theorem GoR.op {d : Option Nat} {op : Op} {ty : TypeId} {pos : String} {aft : Array Edge} {g : Option (Nat × Bool)} {v : Value}
  (hv : OpV P op ty σ w v w') (hg : gd L σ g = true) (hd : dOk n d = true)
  (h : GoR P f n L l k (putS σ d v) w' R) : GoR P f n L (⟨d, op, ty, pos, aft, g⟩ :: l) k σ w R := by
 intro a ha idx hidx
 obtain ⟨i, rest, rfl, hi, hrest⟩ := GoR.cons_inv hidx
 rw [wpOps_cons]
 unfold wpOp
 have hi' : L.toArray[i]? = some ⟨d, op, ty, pos, aft, g⟩ := by simpa using hi
 simp only [hi']
 rw [gd_eq ha, hg, if_pos rfl]
 refine .inl ?_
 unfold Oper.wp
 rw [J0H, ha.eval]
 rcases hv with hv | ⟨hv, rfl⟩ <;> (rw [hv]; exact h _ (ha.putO hd _) rest hrest)
theorem GoR.pass {d : Option Nat} {op : Op} {ty : TypeId} {pos : String} {aft : Array Edge} {g : Option (Nat × Bool)}
  (hg : gd L σ g = false) (hd : dOk n d = true)
  (h : GoR P f n L l k (putS σ d undef) w R) : GoR P f n L (⟨d, op, ty, pos, aft, g⟩ :: l) k σ w R := by
 intro a ha idx hidx
 obtain ⟨i, rest, rfl, hi, hrest⟩ := GoR.cons_inv hidx
 rw [wpOps_cons]
 unfold wpOp
 have hi' : L.toArray[i]? = some ⟨d, op, ty, pos, aft, g⟩ := by simpa using hi
 simp only [hi']
 rw [gd_eq ha, hg]
 exact h _ (ha.putO hd _) rest hrest
theorem GoR.call {d : Option Nat} {op : Op} {ty : TypeId} {pos : String} {aft : Array Edge} {g : Option (Nat × Bool)} {R1 : Value → World → Prop}
  (hc : OpC P op ty σ w R1) (hg : gd L σ g = true) (hd : dOk n d = true)
  (h : ∀ v w', R1 v w' → GoR P f n L l k (putS σ d v) w' R) : GoR P f n L (⟨d, op, ty, pos, aft, g⟩ :: l) k σ w R := by
 intro a ha idx hidx
 obtain ⟨i, rest, rfl, hi, hrest⟩ := GoR.cons_inv hidx
 rw [wpOps_cons]
 unfold wpOp
 have hi' : L.toArray[i]? = some ⟨d, op, ty, pos, aft, g⟩ := by simpa using hi
 simp only [hi']
 rw [gd_eq ha, hg, if_pos rfl]
 refine .inl ?_
 unfold Oper.wp
 rw [J0H, ha.eval]
 obtain ⟨fc, args, hx, hcall⟩ := hc
 rw [hx]
 exact Calls.mono hcall fun e w'' ⟨v, he, hv⟩ => by subst he; exact h v w'' hv _ (ha.putO hd _) rest hrest
end region
end Sg
