/- The walks: each call keeps to its plain transformer. Printed by walkgen.py. -/
import Derived.Test.YtjegjjdfgefkoaaTi
namespace Sg
open Go Go.RowKit Go.Proofs
set_option linter.unusedVariables false
set_option linter.unusedSimpArgs false
set_option maxRecDepth 100000
set_option maxHeartbeats 4000000
theorem body28 : Body Try.prog 28 := ⟨Try.f28, Try.func28, rfl, by kernel_rfl⟩
theorem walk_ref01_IsFactor {A : List Nat} {w0 : World} {u : Str} {w_ : Str} (hA : ∀ b ∈ A, b < w0.heap.size) (zI : u.length ≤ mx) (un : w_.length ≤ mx) {K : Bool → Prop} (H : ref01_IsFactor u w_ K) :
    CallsV Try.prog 28 #[.string (gstr u), .string (gstr w_)] w0 (fun v w' => ∃ (r0 : Bool), v = .bool r0 ∧ Same w0 w' ∧ K r0) := by
 refine CallsV.of (l := [.string (gstr u), .string (gstr w_)]) Try.func28 rfl Try.ntmps28 rfl ?_
 have hO := Owns.start hA
 have hB := Fr.refl (bl []) w0
 unfold ref01_IsFactor at H
 refine Go1.seq ?_
 refine Go1.region ?_
 refine GoR.op ((op_assign rfl) _) rfl rfl ?_
 refine GoR.nil ?_
 refine Go1.seq ?_
 refine Go1.seq ?_
 refine Go1.region ?_
 refine GoR.op ((op_assign rfl) _) rfl rfl ?_
 refine GoR.nil ?_
 refine Go1.block ?_
 refine Go1.loopW (S := Nat) (fun s σ w => agrees σ [(0, .string (gstr u)), (1, .string (gstr w_)), (5, .int .i64 (s : Int))] ∧ Owns w0.heap.size w [] A ∧ Fr (bl []) w0 (bl []) w) H ⟨⟨rfl, rfl, rfl, trivial⟩, hO, hB⟩ ?_
 intro X1 i1_2
 intro H hX1 σ w1
 refine andE fun hag => andE fun hO => fun hB => ?_
 refine Go1.keep [(0, .string (gstr u)), (1, .string (gstr w_)), (5, .int .i64 (i1_2 : Int))] hag ?_
 refine Go1.seq ?_
 refine Go1.seq ?_
 refine Go1.region ?_
 refine GoR.op ((op_move rfl) _) rfl rfl ?_
 refine GoR.op ((op_move rfl) _) rfl rfl ?_
 refine GoR.op ((op_lenS Try.underlying9 rfl) _) rfl rfl ?_
 replace H := H zI
 obtain ⟨h3, H⟩ := H
 refine GoR.op ((op_add rfl rfl (wrap_i64 h3)) _) rfl rfl ?_
 refine GoR.op ((op_move rfl) _) rfl rfl ?_
 refine GoR.op ((op_lenS Try.underlying9 rfl) _) rfl rfl ?_
 replace H := H un
 by_cases h4 : ((i1_2 : Int) + (u.length : Int)) ≤ (w_.length : Int)
 ·replace H := ifp h4 H
  refine GoR.op ((fun w => opB (op_leq rfl rfl w) (decide_eq_true h4)) _) rfl rfl ?_
  refine GoR.nil ?_
  refine Go1.condT rfl rfl ?_
  refine Go1.skip ?_
  refine Go1.seq ?_
  refine Go1.block ?_
  refine Go1.seq ?_
  refine Go1.region ?_
  refine GoR.op ((op_move rfl) _) rfl rfl ?_
  refine GoR.op ((op_move rfl) _) rfl rfl ?_
  refine GoR.op ((op_move rfl) _) rfl rfl ?_
  refine GoR.op ((op_move rfl) _) rfl rfl ?_
  refine GoR.op ((op_lenS Try.underlying9 rfl) _) rfl rfl ?_
  obtain ⟨h5, H⟩ := H
  refine GoR.op ((op_add rfl rfl (wrap_i64 h5)) _) rfl rfl ?_
  obtain ⟨h6, H⟩ := H
  obtain ⟨h7, H⟩ := H
  obtain ⟨h8, H⟩ := H
  refine GoR.op ((op_sliceS2 Try.underlying9 rfl rfl rfl h6 h7 h8) _) rfl rfl ?_
  refine GoR.op ((op_move rfl) _) rfl rfl ?_
  by_cases h9 : ((w_.drop (i1_2 : Int).toNat).take (((i1_2 : Int) + (u.length : Int)).toNat - (i1_2 : Int).toNat)) = u
  ·replace H := ifp h9 H
   refine GoR.op ((fun w => opB (op_eqlS rfl rfl w) (decide_eq_true h9)) _) rfl rfl ?_
   refine GoR.nil ?_
   refine Go1.condT rfl rfl ?_
   refine Go1.seq ?_
   refine Go1.region ?_
   refine GoR.op ((op_assign rfl) _) rfl rfl ?_
   refine GoR.nil ?_
   refine Go1.ret1 Try.func28 rfl ?_
   exact ⟨true, rfl, hB.same, H⟩
  replace H := ifn h9 H
  refine GoR.op ((fun w => opB (op_eqlS rfl rfl w) (decide_eq_false h9)) _) rfl rfl ?_
  refine GoR.nil ?_
  refine Go1.condF rfl rfl ?_
  refine Go1.skip ?_
  refine Go1.inBlock ?_
  refine Go1.region ?_
  refine GoR.op ((op_move rfl) _) rfl rfl ?_
  obtain ⟨h10, H⟩ := H
  refine GoR.op ((op_add rfl rfl (wrap_i64 h10)) _) rfl rfl ?_
  refine GoR.op ((op_assign rfl) _) rfl rfl ?_
  refine GoR.nil ?_
  exact hX1 _ H _ _ ⟨⟨rfl, rfl, rfl, trivial⟩, hO, hB⟩
 replace H := ifn h4 H
 refine GoR.op ((fun w => opB (op_leq rfl rfl w) (decide_eq_false h4)) _) rfl rfl ?_
 refine GoR.nil ?_
 refine Go1.condF rfl rfl ?_
 refine Go1.exit rfl ?_
 refine Go1.seq ?_
 refine Go1.cut [] trivial ?_
 intro σ _
 refine Go1.region ?_
 refine GoR.op ((op_assign rfl) _) rfl rfl ?_
 refine GoR.nil ?_
 refine Go1.ret1 Try.func28 rfl ?_
 exact ⟨false, rfl, hB.same, H⟩
theorem body58 : Body Try.prog 58 := ⟨Try.f58, Try.func58, rfl, by kernel_rfl⟩
theorem walk_word_Valid {A : List Nat} {w0 : World} {w_ : Str} {letters : Int} (hA : ∀ b ∈ A, b < w0.heap.size) (un : w_.length ≤ mx) {K : Bool → Prop} (H : word_Valid w_ letters K) :
    CallsV Try.prog 58 #[.string (gstr w_), .int .i64 letters] w0 (fun v w' => ∃ (r0 : Bool), v = .bool r0 ∧ Same w0 w' ∧ K r0) := by
 refine CallsV.of (l := [.string (gstr w_), .int .i64 letters]) Try.func58 rfl Try.ntmps58 rfl ?_
 have hO := Owns.start hA
 have hB := Fr.refl (bl []) w0
 unfold word_Valid at H
 refine Go1.seq ?_
 refine Go1.region ?_
 refine GoR.op ((op_assign rfl) _) rfl rfl ?_
 refine GoR.nil ?_
 refine Go1.seq ?_
 refine Go1.seq ?_
 refine Go1.region ?_
 refine GoR.op ((op_move rfl) _) rfl rfl ?_
 by_cases h1 : letters < (1 : Int)
 ·replace H := ifp h1 H
  refine GoR.op ((fun w => opB (op_lss rfl rfl w) (decide_eq_true h1)) _) rfl rfl ?_
  refine GoR.op ((op_move rfl) _) rfl rfl ?_
  refine GoR.pass rfl rfl ?_
  refine GoR.pass rfl rfl ?_
  refine GoR.op ((op_pickT rfl rfl rfl) _) rfl rfl ?_
  refine GoR.op ((op_move rfl) _) rfl rfl ?_
  refine GoR.pass rfl rfl ?_
  refine GoR.pass rfl rfl ?_
  refine GoR.pass rfl rfl ?_
  refine GoR.op ((op_pickT rfl rfl rfl) _) rfl rfl ?_
  refine GoR.nil ?_
  refine Go1.condT rfl rfl ?_
  refine Go1.seq ?_
  refine Go1.region ?_
  refine GoR.op ((op_assign rfl) _) rfl rfl ?_
  refine GoR.nil ?_
  refine Go1.ret1 Try.func58 rfl ?_
  exact ⟨false, rfl, hB.same, H⟩
 replace H := ifn h1 H
 refine GoR.op ((fun w => opB (op_lss rfl rfl w) (decide_eq_false h1)) _) rfl rfl ?_
 refine GoR.op ((op_move rfl) _) rfl rfl ?_
 refine GoR.op ((op_move rfl) _) rfl rfl ?_
 by_cases h2 : (6 : Int) < letters
 ·replace H := ifp h2 H
  refine GoR.op ((fun w => opB (op_gtr rfl rfl w) (decide_eq_true h2)) _) rfl rfl ?_
  refine GoR.op ((op_pickF rfl rfl rfl) _) rfl rfl ?_
  refine GoR.op ((op_move rfl) _) rfl rfl ?_
  refine GoR.pass rfl rfl ?_
  refine GoR.pass rfl rfl ?_
  refine GoR.pass rfl rfl ?_
  refine GoR.op ((op_pickT rfl rfl rfl) _) rfl rfl ?_
  refine GoR.nil ?_
  refine Go1.condT rfl rfl ?_
  refine Go1.seq ?_
  refine Go1.cut [] trivial ?_
  intro σ _
  refine Go1.region ?_
  refine GoR.op ((op_assign rfl) _) rfl rfl ?_
  refine GoR.nil ?_
  refine Go1.ret1 Try.func58 rfl ?_
  exact ⟨false, rfl, hB.same, H⟩
 replace H := ifn h2 H
 refine GoR.op ((fun w => opB (op_gtr rfl rfl w) (decide_eq_false h2)) _) rfl rfl ?_
 refine GoR.op ((op_pickF rfl rfl rfl) _) rfl rfl ?_
 refine GoR.op ((op_move rfl) _) rfl rfl ?_
 refine GoR.op ((op_move rfl) _) rfl rfl ?_
 refine GoR.op ((op_lenS Try.underlying9 rfl) _) rfl rfl ?_
 replace H := H un
 by_cases h3 : (2048 : Int) < (w_.length : Int)
 ·replace H := ifp h3 H
  refine GoR.op ((fun w => opB (op_gtr rfl rfl w) (decide_eq_true h3)) _) rfl rfl ?_
  refine GoR.op ((op_pickF rfl rfl rfl) _) rfl rfl ?_
  refine GoR.nil ?_
  refine Go1.condT rfl rfl ?_
  refine Go1.seq ?_
  refine Go1.region ?_
  refine GoR.op ((op_assign rfl) _) rfl rfl ?_
  refine GoR.nil ?_
  refine Go1.ret1 Try.func58 rfl ?_
  exact ⟨false, rfl, hB.same, H⟩
 replace H := ifn h3 H
 refine GoR.op ((fun w => opB (op_gtr rfl rfl w) (decide_eq_false h3)) _) rfl rfl ?_
 refine GoR.op ((op_pickF rfl rfl rfl) _) rfl rfl ?_
 refine GoR.nil ?_
 refine Go1.condF rfl rfl ?_
 refine Go1.skip ?_
 refine Go1.seq ?_
 refine Go1.seq ?_
 refine Go1.region ?_
 refine GoR.op ((op_move rfl) _) rfl rfl ?_
 refine GoR.op ((op_lenS Try.underlying9 rfl) _) rfl rfl ?_
 refine GoR.op ((op_move rfl) _) rfl rfl ?_
 refine GoR.nil ?_
 refine Go1.block ?_
 refine Go1.loopW (S := Nat) (fun s σ w => agrees σ [(0, .string (gstr w_)), (1, .int .i64 letters), (18, .int .i64 (w_.length : Int)), (19, .int .i64 (s : Int))] ∧ Owns w0.heap.size w [] A ∧ Fr (bl []) w0 (bl []) w) H ⟨⟨rfl, rfl, rfl, rfl, trivial⟩, hO, hB⟩ ?_
 intro X1 k1_5
 intro H hX1 σ w4
 refine andE fun hag => andE fun hO => fun hB => ?_
 refine Go1.keep [(0, .string (gstr w_)), (1, .int .i64 letters), (18, .int .i64 (w_.length : Int)), (19, .int .i64 (k1_5 : Int))] hag ?_
 refine Go1.seq ?_
 refine Go1.region ?_
 by_cases h6 : (k1_5 : Int) < (w_.length : Int)
 ·replace H := ifp h6 H
  refine GoR.op ((fun w => opB (op_lss rfl rfl w) (decide_eq_true h6)) _) rfl rfl ?_
  refine GoR.nil ?_
  refine Go1.seq ?_
  refine Go1.condT rfl rfl ?_
  refine Go1.skip ?_
  refine Go1.seq ?_
  refine Go1.block ?_
  refine Go1.seq ?_
  refine Go1.region ?_
  refine GoR.op ((op_move rfl) _) rfl rfl ?_
  refine GoR.op ((op_assign rfl) _) rfl rfl ?_
  refine GoR.nil ?_
  refine Go1.seq ?_
  refine Go1.region ?_
  refine GoR.op ((op_move rfl) _) rfl rfl ?_
  refine GoR.op ((op_move rfl) _) rfl rfl ?_
  obtain ⟨h7, H⟩ := H
  obtain ⟨h8, H⟩ := H
  refine GoR.op ((op_indexS Try.underlying9 rfl rfl h7 h8) _) rfl rfl ?_
  by_cases h9 : ((ix w_ (k1_5 : Int)).toNat : Int) < (97 : Int)
  ·replace H := ifp h9 H
   refine GoR.op ((fun w => opB (op_lss rfl rfl w) (decide_eq_true h9)) _) rfl rfl ?_
   refine GoR.op ((op_move rfl) _) rfl rfl ?_
   refine GoR.pass rfl rfl ?_
   refine GoR.pass rfl rfl ?_
   refine GoR.pass rfl rfl ?_
   refine GoR.pass rfl rfl ?_
   refine GoR.pass rfl rfl ?_
   refine GoR.pass rfl rfl ?_
   refine GoR.pass rfl rfl ?_
   refine GoR.op ((op_pickT rfl rfl rfl) _) rfl rfl ?_
   refine GoR.nil ?_
   refine Go1.condT rfl rfl ?_
   refine Go1.seq ?_
   refine Go1.region ?_
   refine GoR.op ((op_assign rfl) _) rfl rfl ?_
   refine GoR.nil ?_
   refine Go1.ret1 Try.func58 rfl ?_
   exact ⟨false, rfl, hB.same, H⟩
  replace H := ifn h9 H
  refine GoR.op ((fun w => opB (op_lss rfl rfl w) (decide_eq_false h9)) _) rfl rfl ?_
  refine GoR.op ((op_move rfl) _) rfl rfl ?_
  refine GoR.op ((op_move rfl) _) rfl rfl ?_
  refine GoR.op ((op_move rfl) _) rfl rfl ?_
  obtain ⟨h10, H⟩ := H
  obtain ⟨h11, H⟩ := H
  refine GoR.op ((op_indexS Try.underlying9 rfl rfl h10 h11) _) rfl rfl ?_
  refine GoR.op ((op_sub rfl rfl rfl) _) rfl rfl ?_
  refine GoR.op ((op_conv Try.underlying5 Try.underlying3 rfl rfl) _) rfl rfl ?_
  refine GoR.op ((op_move rfl) _) rfl rfl ?_
  by_cases h12 : letters ≤ (IntKind.i64.wrap (IntKind.u8.wrap (((ix w_ (k1_5 : Int)).toNat : Int) - (97 : Int))))
  ·replace H := ifp h12 H
   refine GoR.op ((fun w => opB (op_geq rfl rfl w) (decide_eq_true h12)) _) rfl rfl ?_
   refine GoR.op ((op_pickF rfl rfl rfl) _) rfl rfl ?_
   refine GoR.nil ?_
   refine Go1.condT rfl rfl ?_
   refine Go1.seq ?_
   refine Go1.cut [] trivial ?_
   intro σ _
   refine Go1.region ?_
   refine GoR.op ((op_assign rfl) _) rfl rfl ?_
   refine GoR.nil ?_
   refine Go1.ret1 Try.func58 rfl ?_
   exact ⟨false, rfl, hB.same, H⟩
  replace H := ifn h12 H
  refine GoR.op ((fun w => opB (op_geq rfl rfl w) (decide_eq_false h12)) _) rfl rfl ?_
  refine GoR.op ((op_pickF rfl rfl rfl) _) rfl rfl ?_
  refine GoR.nil ?_
  refine Go1.condF rfl rfl ?_
  refine Go1.skip ?_
  refine Go1.inBlock ?_
  refine Go1.region ?_
  refine GoR.op ((op_add rfl rfl (wrap_i64 (natbd h6 un))) _) rfl rfl ?_
  refine GoR.op ((op_move rfl) _) rfl rfl ?_
  refine GoR.nil ?_
  exact hX1 _ H _ _ ⟨⟨rfl, rfl, rfl, rfl, trivial⟩, hO, hB⟩
 replace H := ifn h6 H
 refine GoR.op ((fun w => opB (op_lss rfl rfl w) (decide_eq_false h6)) _) rfl rfl ?_
 refine GoR.nil ?_
 refine Go1.seq ?_
 refine Go1.condF rfl rfl ?_
 refine Go1.exit rfl ?_
 refine Go1.seq ?_
 refine Go1.region ?_
 refine GoR.op ((op_assign rfl) _) rfl rfl ?_
 refine GoR.nil ?_
 refine Go1.ret1 Try.func58 rfl ?_
 exact ⟨true, rfl, hB.same, H⟩
end Sg
