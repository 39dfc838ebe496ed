/- The walks: each call keeps to its plain transformer. Printed by walkgen.py. -/
import Derived.Test.YthobeabghciknaaTi
import Derived.Test.YthobeabghciknaaWGreenClassesb
namespace Sg
open Go Go.RowKit Go.Proofs
set_option linter.unusedVariables false
set_option linter.unusedSimpArgs false
set_option maxRecDepth 100000
set_option maxHeartbeats 4000000
theorem body19 : Body Try.prog 19 := ⟨Try.f19, Try.func19, rfl, by kernel_rfl⟩
theorem walk_law15_small {A : List Nat} {w0 : World} {p_t : Option Addr} {c_t : Nat} {t : List (List Int)} {most : Int} (hA : ∀ b ∈ A, b < w0.heap.size) (h_t : ISl (Rp.sl (Rp.int .i64)) A w0 p_t c_t t) {K : Bool → Prop} (H : law15_small t most K) :
    CallsV Try.prog 19 #[.slice p_t t.length c_t, .int .i64 most] w0 (fun v w' => ∃ (r0 : Bool), v = .bool r0 ∧ Same w0 w' ∧ K r0) := by
 refine CallsV.of (l := [.slice p_t t.length c_t, .int .i64 most]) Try.func19 rfl Try.ntmps19 rfl ?_
 have hO := Owns.start hA
 have hB := Fr.refl (bl []) w0
 unfold law15_small at H
 replace h_t := h_t.ch (Ch.start A w0)
 refine Go1.seq ?_
 refine Go1.region ?_
 refine GoR.op ((op_assign rfl) _) rfl rfl ?_
 refine GoR.nil ?_
 refine Go1.seq ?_
 refine Go1.region ?_
 refine GoR.op ((op_move rfl) _) rfl rfl ?_
 refine GoR.op ((op_len Try.underlying22 rfl) _) rfl rfl ?_
 replace H := H h_t.bd
 refine GoR.op ((op_move rfl) _) rfl rfl ?_
 by_cases h1 : (t.length : Int) ≤ most
 ·replace H := ifp h1 H
  refine GoR.op ((fun w => opB (op_leq rfl rfl w) (decide_eq_true h1)) _) rfl rfl ?_
  refine GoR.op ((op_move rfl) _) rfl rfl ?_
  refine GoR.op ((op_move rfl) _) rfl rfl ?_
  refine GoR.call (op_call body16 rfl (walk_ref14_Valid hO.lt h_t H)) rfl rfl ?_
  rintro v6 w3 ⟨r2, rfl, hs4, H⟩
  have hst7 := Stp.same hO hs4
  replace hO := hst7.own
  replace h_t := h_t.ch hst7.ch
  replace hB := hB.trans hst7.fr
  refine GoR.op ((op_pickT rfl rfl rfl) _) rfl rfl ?_
  refine GoR.op ((op_assign rfl) _) rfl rfl ?_
  refine GoR.nil ?_
  refine Go1.ret1 Try.func19 rfl ?_
  exact ⟨r2, rfl, hB.same, H⟩
 ·replace H := ifn h1 H
  refine GoR.op ((fun w => opB (op_leq rfl rfl w) (decide_eq_false h1)) _) rfl rfl ?_
  refine GoR.op ((op_move rfl) _) rfl rfl ?_
  refine GoR.pass rfl rfl ?_
  refine GoR.pass rfl rfl ?_
  refine GoR.op ((op_pickF rfl rfl rfl) _) rfl rfl ?_
  refine GoR.op ((op_assign rfl) _) rfl rfl ?_
  refine GoR.nil ?_
  refine Go1.ret1 Try.func19 rfl ?_
  exact ⟨false, rfl, hB.same, H⟩
theorem body20 : Body Try.prog 20 := ⟨Try.f20, Try.func20, rfl, by kernel_rfl⟩
theorem walk_ref14_In {A : List Nat} {w0 : World} {p_t : Option Addr} {c_t : Nat} {p_l : Option Addr} {c_l : Nat} {t : List (List Int)} {l : List Int} (hA : ∀ b ∈ A, b < w0.heap.size) (h_t : ISl (Rp.sl (Rp.int .i64)) A w0 p_t c_t t) (h_l : ISl (Rp.int .i64) A w0 p_l c_l l) {K : Bool → Prop} (H : ref14_In t l K) :
    CallsV Try.prog 20 #[.slice p_t t.length c_t, .slice p_l l.length c_l] w0 (fun v w' => ∃ (r0 : Bool), v = .bool r0 ∧ Same w0 w' ∧ K r0) := by
 refine CallsV.of (l := [.slice p_t t.length c_t, .slice p_l l.length c_l]) Try.func20 rfl Try.ntmps20 rfl ?_
 have hO := Owns.start hA
 have hB := Fr.refl (bl []) w0
 unfold ref14_In at H
 replace h_t := h_t.ch (Ch.start A w0)
 replace h_l := h_l.ch (Ch.start A w0)
 refine Go1.seq ?_
 refine Go1.region ?_
 refine GoR.op ((op_assign rfl) _) rfl rfl ?_
 refine GoR.nil ?_
 refine Go1.seq ?_
 refine Go1.seq ?_
 refine Go1.region ?_
 refine GoR.op ((op_move rfl) _) rfl rfl ?_
 refine GoR.op ((op_len Try.underlying25 rfl) _) rfl rfl ?_
 replace H := H h_l.bd
 refine GoR.op ((op_move rfl) _) rfl rfl ?_
 refine GoR.nil ?_
 refine Go1.block ?_
 refine Go1.loopW (S := Nat) (fun s σ w => agrees σ [(0, .slice p_t t.length c_t), (7, .slice p_l l.length c_l), (8, .int .i64 (l.length : Int)), (9, .int .i64 (s : Int))] ∧ Owns w0.heap.size w [] A ∧ ISl (Rp.sl (Rp.int .i64)) (bl [] ++ A) w p_t c_t t ∧ ISl (Rp.int .i64) (bl [] ++ A) w p_l c_l l ∧ Fr (bl []) w0 (bl []) w) H ⟨⟨rfl, rfl, rfl, rfl, trivial⟩, hO, h_t, h_l, hB⟩ ?_
 rintro X1 k1_2 H hX1 σ w1 ⟨hag, hO, h_t, h_l, hB⟩
 refine Go1.keep [(0, .slice p_t t.length c_t), (7, .slice p_l l.length c_l), (8, .int .i64 (l.length : Int)), (9, .int .i64 (k1_2 : Int))] hag ?_
 refine Go1.seq ?_
 refine Go1.region ?_
 by_cases h3 : (k1_2 : Int) < (l.length : Int)
 ·replace H := ifp h3 H
  refine GoR.op ((fun w => opB (op_lss rfl rfl w) (decide_eq_true h3)) _) rfl rfl ?_
  refine GoR.nil ?_
  refine Go1.seq ?_
  refine Go1.condT rfl rfl ?_
  refine Go1.skip ?_
  refine Go1.seq ?_
  refine Go1.block ?_
  refine Go1.seq ?_
  refine Go1.region ?_
  obtain ⟨h4, H⟩ := H
  obtain ⟨h5, H⟩ := H
  refine GoR.op ((op_index Try.underlying25 ti3 rfl rfl h4 h5 (h_l.some_ h4 h5)) _) rfl rfl ?_
  refine GoR.op ((ldInt h_l h4 h5 Try.underlying3 rfl rfl) _ (Same.refl _)) rfl rfl ?_
  refine GoR.op ((op_assign rfl) _) rfl rfl ?_
  refine GoR.nil ?_
  refine Go1.seq ?_
  refine Go1.region ?_
  refine GoR.op ((op_move rfl) _) rfl rfl ?_
  by_cases h6 : (ix l (k1_2 : Int)) < (0 : Int)
  ·replace H := ifp h6 H
   refine GoR.op ((fun w => opB (op_lss rfl rfl w) (decide_eq_true h6)) _) rfl rfl ?_
   refine GoR.op ((op_move rfl) _) rfl rfl ?_
   refine GoR.pass rfl rfl ?_
   refine GoR.pass rfl rfl ?_
   refine GoR.pass rfl rfl ?_
   refine GoR.pass rfl rfl ?_
   refine GoR.op ((op_pickT rfl rfl rfl) _) rfl rfl ?_
   refine GoR.nil ?_
   refine Go1.condT rfl rfl ?_
   refine Go1.seq ?_
   refine Go1.region ?_
   refine GoR.op ((op_assign rfl) _) rfl rfl ?_
   refine GoR.nil ?_
   refine Go1.ret1 Try.func20 rfl ?_
   exact ⟨false, rfl, hB.same, H⟩
  ·replace H := ifn h6 H
   refine GoR.op ((fun w => opB (op_lss rfl rfl w) (decide_eq_false h6)) _) rfl rfl ?_
   refine GoR.op ((op_move rfl) _) rfl rfl ?_
   refine GoR.op ((op_move rfl) _) rfl rfl ?_
   refine GoR.op ((op_move rfl) _) rfl rfl ?_
   refine GoR.op ((op_len Try.underlying22 rfl) _) rfl rfl ?_
   replace H := H h_t.bd
   by_cases h7 : (t.length : Int) ≤ (ix l (k1_2 : Int))
   ·replace H := ifp h7 H
    refine GoR.op ((fun w => opB (op_geq rfl rfl w) (decide_eq_true h7)) _) rfl rfl ?_
    refine GoR.op ((op_pickF rfl rfl rfl) _) rfl rfl ?_
    refine GoR.nil ?_
    refine Go1.condT rfl rfl ?_
    refine Go1.seq ?_
    refine Go1.region ?_
    refine GoR.op ((op_assign rfl) _) rfl rfl ?_
    refine GoR.nil ?_
    refine Go1.ret1 Try.func20 rfl ?_
    exact ⟨false, rfl, hB.same, H⟩
   ·replace H := ifn h7 H
    refine GoR.op ((fun w => opB (op_geq rfl rfl w) (decide_eq_false h7)) _) rfl rfl ?_
    refine GoR.op ((op_pickF rfl rfl rfl) _) rfl rfl ?_
    refine GoR.nil ?_
    refine Go1.condF rfl rfl ?_
    refine Go1.skip ?_
    refine Go1.inBlock ?_
    refine Go1.region ?_
    refine GoR.op ((op_add rfl rfl (wrap_i64 (natbd h3 h_l.bd))) _) rfl rfl ?_
    refine GoR.op ((op_move rfl) _) rfl rfl ?_
    refine GoR.nil ?_
    exact hX1 _ H _ _ ⟨⟨rfl, rfl, rfl, rfl, trivial⟩, hO, h_t, h_l, hB⟩
 ·replace H := ifn h3 H
  refine GoR.op ((fun w => opB (op_lss rfl rfl w) (decide_eq_false h3)) _) rfl rfl ?_
  refine GoR.nil ?_
  refine Go1.seq ?_
  refine Go1.condF rfl rfl ?_
  refine Go1.exit rfl ?_
  refine Go1.seq ?_
  refine Go1.region ?_
  refine GoR.op ((op_assign rfl) _) rfl rfl ?_
  refine GoR.nil ?_
  refine Go1.ret1 Try.func20 rfl ?_
  exact ⟨true, rfl, hB.same, H⟩
end Sg
