/- The walks: each call keeps to its plain transformer. Printed by walkgen.py. -/
import Derived.Test.YtjegjjdfgefkoaaTi
import Derived.Test.YtjegjjdfgefkoaaWEnumerateBuildsb
import Derived.Test.YtjegjjdfgefkoaaWEnumerateBuildsc
namespace Sg
open Go Go.RowKit Go.Proofs
set_option linter.unusedVariables false
set_option linter.unusedSimpArgs false
set_option maxRecDepth 100000
set_option maxHeartbeats 4000000
theorem body56 : Body Try.prog 56 := ⟨Try.f56, Try.func56, rfl, by kernel_rfl⟩
theorem walk_ref01_MayLetters {A : List Nat} {w0 : World} {letters : Int} (hA : ∀ b ∈ A, b < w0.heap.size) {K : Bool → Prop} (H : ref01_MayLetters letters K) :
    CallsV Try.prog 56 #[.int .i64 letters] w0 (fun v w' => ∃ (r0 : Bool), v = .bool r0 ∧ Same w0 w' ∧ K r0) := by
 refine CallsV.of (l := [.int .i64 letters]) Try.func56 rfl Try.ntmps56 rfl ?_
 have hO := Owns.start hA
 have hB := Fr.refl (bl []) w0
 unfold ref01_MayLetters at H
 refine Go1.seq ?_
 refine Go1.region ?_
 refine GoR.op ((op_assign rfl) _) rfl rfl ?_
 refine GoR.nil ?_
 refine Go1.seq ?_
 refine Go1.region ?_
 refine GoR.op ((op_move rfl) _) rfl rfl ?_
 by_cases h1 : (1 : Int) ≤ letters
 ·replace H := ifp h1 H
  refine GoR.op ((fun w => opB (op_geq rfl rfl w) (decide_eq_true h1)) _) rfl rfl ?_
  refine GoR.op ((op_move rfl) _) rfl rfl ?_
  refine GoR.op ((op_move rfl) _) rfl rfl ?_
  by_cases h2 : letters ≤ (6 : Int)
  ·replace H := ifp h2 H
   refine GoR.op ((fun w => opB (op_leq rfl rfl w) (decide_eq_true h2)) _) rfl rfl ?_
   refine GoR.op ((op_pickT rfl rfl rfl) _) rfl rfl ?_
   refine GoR.op ((op_assign rfl) _) rfl rfl ?_
   refine GoR.nil ?_
   refine Go1.ret1 Try.func56 rfl ?_
   exact ⟨true, rfl, hB.same, H⟩
  replace H := ifn h2 H
  refine GoR.op ((fun w => opB (op_leq rfl rfl w) (decide_eq_false h2)) _) rfl rfl ?_
  refine GoR.op ((op_pickT rfl rfl rfl) _) rfl rfl ?_
  refine GoR.op ((op_assign rfl) _) rfl rfl ?_
  refine GoR.nil ?_
  refine Go1.ret1 Try.func56 rfl ?_
  exact ⟨false, rfl, hB.same, H⟩
 replace H := ifn h1 H
 refine GoR.op ((fun w => opB (op_geq rfl rfl w) (decide_eq_false h1)) _) rfl rfl ?_
 refine GoR.op ((op_move rfl) _) rfl rfl ?_
 refine GoR.pass rfl rfl ?_
 refine GoR.pass rfl rfl ?_
 refine GoR.op ((op_pickF rfl rfl rfl) _) rfl rfl ?_
 refine GoR.op ((op_assign rfl) _) rfl rfl ?_
 refine GoR.nil ?_
 refine Go1.ret1 Try.func56 rfl ?_
 exact ⟨false, rfl, hB.same, H⟩
theorem body27 : Body Try.prog 27 := ⟨Try.f27, Try.func27, rfl, by kernel_rfl⟩
theorem walk_ref01_Valid {A : List Nat} {w0 : World} {w_ : Str} {letters : Int} (hA : ∀ b ∈ A, b < w0.heap.size) (nw : w_.length ≤ mx) {K : Bool → Prop} (H : ref01_Valid w_ letters K) :
    CallsV Try.prog 27 #[.string (gstr w_), .int .i64 letters] w0 (fun v w' => ∃ (r0 : Bool), v = .bool r0 ∧ Same w0 w' ∧ K r0) := by
 refine CallsV.of (l := [.string (gstr w_), .int .i64 letters]) Try.func27 rfl Try.ntmps27 rfl ?_
 have hO := Owns.start hA
 have hB := Fr.refl (bl []) w0
 unfold ref01_Valid at H
 refine Go1.seq ?_
 refine Go1.region ?_
 refine GoR.op ((op_assign rfl) _) rfl rfl ?_
 refine GoR.nil ?_
 refine Go1.seq ?_
 refine Go1.seq ?_
 refine Go1.region ?_
 refine GoR.op ((op_move rfl) _) rfl rfl ?_
 refine GoR.call (op_call body56 rfl (walk_ref01_MayLetters hO.lt H)) rfl rfl ?_
 rintro v5 w2 ⟨r1, rfl, hs3, H⟩
 have sM := Stp.same hO hs3
 replace hO := sM.own
 replace hB := hB.trans sM.fr
 cases r1
 ·replace H := ifn Bool.false_ne_true H
  refine GoR.op ((op_not rfl) _) rfl rfl ?_
  refine GoR.op ((op_move rfl) _) rfl rfl ?_
  refine GoR.pass rfl rfl ?_
  refine GoR.pass rfl rfl ?_
  refine GoR.pass rfl rfl ?_
  refine GoR.op ((op_pickT rfl rfl rfl) _) rfl rfl ?_
  refine GoR.nil ?_
  refine Go1.condT rfl rfl ?_
  refine Go1.seq ?_
  refine Go1.region ?_
  refine GoR.op ((op_assign rfl) _) rfl rfl ?_
  refine GoR.nil ?_
  refine Go1.ret1 Try.func27 rfl ?_
  exact ⟨false, rfl, hB.same, H⟩
 replace H := ifp rfl H
 refine GoR.op ((op_not rfl) _) rfl rfl ?_
 refine GoR.op ((op_move rfl) _) rfl rfl ?_
 refine GoR.op ((op_move rfl) _) rfl rfl ?_
 refine GoR.op ((op_lenS Try.underlying9 rfl) _) rfl rfl ?_
 replace H := H nw
 by_cases h7 : (2048 : Int) < (w_.length : Int)
 ·replace H := ifp h7 H
  refine GoR.op ((fun w => opB (op_gtr rfl rfl w) (decide_eq_true h7)) _) rfl rfl ?_
  refine GoR.op ((op_pickF rfl rfl rfl) _) rfl rfl ?_
  refine GoR.nil ?_
  refine Go1.condT rfl rfl ?_
  refine Go1.seq ?_
  refine Go1.region ?_
  refine GoR.op ((op_assign rfl) _) rfl rfl ?_
  refine GoR.nil ?_
  refine Go1.ret1 Try.func27 rfl ?_
  exact ⟨false, rfl, hB.same, H⟩
 replace H := ifn h7 H
 refine GoR.op ((fun w => opB (op_gtr rfl rfl w) (decide_eq_false h7)) _) rfl rfl ?_
 refine GoR.op ((op_pickF rfl rfl rfl) _) rfl rfl ?_
 refine GoR.nil ?_
 refine Go1.condF rfl rfl ?_
 refine Go1.skip ?_
 refine Go1.seq ?_
 refine Go1.seq ?_
 refine Go1.cut [(0, .string (gstr w_)), (1, .int .i64 letters)] ⟨rfl, rfl, trivial⟩ ?_
 intro σ _
 refine Go1.region ?_
 refine GoR.op ((op_assign rfl) _) rfl rfl ?_
 refine GoR.nil ?_
 refine Go1.block ?_
 refine Go1.loopW (S := Nat) (fun s σ w => agrees σ [(0, .string (gstr w_)), (1, .int .i64 letters), (5, .int .i64 (s : Int))] ∧ Owns w0.heap.size w [] A ∧ Fr (bl []) w0 (bl []) w) H ⟨⟨rfl, rfl, rfl, trivial⟩, hO, hB⟩ ?_
 intro X1 i1_9
 intro H hX1 σ w8
 refine andE fun hag => andE fun hO => fun hB => ?_
 refine Go1.keep [(0, .string (gstr w_)), (1, .int .i64 letters), (5, .int .i64 (i1_9 : Int))] hag ?_
 refine Go1.seq ?_
 refine Go1.seq ?_
 refine Go1.region ?_
 refine GoR.op ((op_move rfl) _) rfl rfl ?_
 refine GoR.op ((op_move rfl) _) rfl rfl ?_
 refine GoR.op ((op_lenS Try.underlying9 rfl) _) rfl rfl ?_
 by_cases h10 : (i1_9 : Int) < (w_.length : Int)
 ·replace H := ifp h10 H
  refine GoR.op ((fun w => opB (op_lss rfl rfl w) (decide_eq_true h10)) _) rfl rfl ?_
  refine GoR.nil ?_
  refine Go1.condT rfl rfl ?_
  refine Go1.skip ?_
  refine Go1.seq ?_
  refine Go1.block ?_
  refine Go1.seq ?_
  refine Go1.region ?_
  refine GoR.op ((op_move rfl) _) rfl rfl ?_
  refine GoR.op ((op_move rfl) _) rfl rfl ?_
  obtain ⟨h11, H⟩ := H
  obtain ⟨h12, H⟩ := H
  refine GoR.op ((op_indexS Try.underlying9 rfl rfl h11 h12) _) rfl rfl ?_
  by_cases h13 : ((ix w_ (i1_9 : Int)).toNat : Int) < (97 : Int)
  ·replace H := ifp h13 H
   refine GoR.op ((fun w => opB (op_lss rfl rfl w) (decide_eq_true h13)) _) rfl rfl ?_
   refine GoR.op ((op_move rfl) _) rfl rfl ?_
   refine GoR.pass rfl rfl ?_
   refine GoR.pass rfl rfl ?_
   refine GoR.pass rfl rfl ?_
   refine GoR.pass rfl rfl ?_
   refine GoR.pass rfl rfl ?_
   refine GoR.pass rfl rfl ?_
   refine GoR.pass rfl rfl ?_
   refine GoR.op ((op_pickT rfl rfl rfl) _) rfl rfl ?_
   refine GoR.nil ?_
   refine Go1.condT rfl rfl ?_
   refine Go1.seq ?_
   refine Go1.region ?_
   refine GoR.op ((op_assign rfl) _) rfl rfl ?_
   refine GoR.nil ?_
   refine Go1.ret1 Try.func27 rfl ?_
   exact ⟨false, rfl, hB.same, H⟩
  replace H := ifn h13 H
  refine GoR.op ((fun w => opB (op_lss rfl rfl w) (decide_eq_false h13)) _) rfl rfl ?_
  refine GoR.op ((op_move rfl) _) rfl rfl ?_
  refine GoR.op ((op_move rfl) _) rfl rfl ?_
  refine GoR.op ((op_move rfl) _) rfl rfl ?_
  obtain ⟨h14, H⟩ := H
  obtain ⟨h15, H⟩ := H
  refine GoR.op ((op_indexS Try.underlying9 rfl rfl h14 h15) _) rfl rfl ?_
  refine GoR.op ((op_sub rfl rfl rfl) _) rfl rfl ?_
  refine GoR.op ((op_conv Try.underlying5 Try.underlying3 rfl rfl) _) rfl rfl ?_
  refine GoR.op ((op_move rfl) _) rfl rfl ?_
  by_cases h16 : letters ≤ (IntKind.i64.wrap (IntKind.u8.wrap (((ix w_ (i1_9 : Int)).toNat : Int) - (97 : Int))))
  ·replace H := ifp h16 H
   refine GoR.op ((fun w => opB (op_geq rfl rfl w) (decide_eq_true h16)) _) rfl rfl ?_
   refine GoR.op ((op_pickF rfl rfl rfl) _) rfl rfl ?_
   refine GoR.nil ?_
   refine Go1.condT rfl rfl ?_
   refine Go1.seq ?_
   refine Go1.cut [] trivial ?_
   intro σ _
   refine Go1.region ?_
   refine GoR.op ((op_assign rfl) _) rfl rfl ?_
   refine GoR.nil ?_
   refine Go1.ret1 Try.func27 rfl ?_
   exact ⟨false, rfl, hB.same, H⟩
  replace H := ifn h16 H
  refine GoR.op ((fun w => opB (op_geq rfl rfl w) (decide_eq_false h16)) _) rfl rfl ?_
  refine GoR.op ((op_pickF rfl rfl rfl) _) rfl rfl ?_
  refine GoR.nil ?_
  refine Go1.condF rfl rfl ?_
  refine Go1.skip ?_
  refine Go1.inBlock ?_
  refine Go1.region ?_
  refine GoR.op ((op_move rfl) _) rfl rfl ?_
  refine GoR.op ((op_add rfl rfl (wrap_i64 (natbd h10 nw))) _) rfl rfl ?_
  refine GoR.op ((op_assign rfl) _) rfl rfl ?_
  refine GoR.nil ?_
  exact hX1 _ H _ _ ⟨⟨rfl, rfl, rfl, trivial⟩, hO, hB⟩
 replace H := ifn h10 H
 refine GoR.op ((fun w => opB (op_lss rfl rfl w) (decide_eq_false h10)) _) rfl rfl ?_
 refine GoR.nil ?_
 refine Go1.condF rfl rfl ?_
 refine Go1.exit rfl ?_
 refine Go1.seq ?_
 refine Go1.region ?_
 refine GoR.op ((op_assign rfl) _) rfl rfl ?_
 refine GoR.nil ?_
 refine Go1.ret1 Try.func27 rfl ?_
 exact ⟨true, rfl, hB.same, H⟩
theorem body58 : Body Try.prog 58 := ⟨Try.f58, Try.func58, rfl, by kernel_rfl⟩
theorem walk_word_Valid {A : List Nat} {w0 : World} {w_ : Str} {letters : Int} (hA : ∀ b ∈ A, b < w0.heap.size) (nw : w_.length ≤ mx) {K : Bool → Prop} (H : word_Valid w_ letters K) :
    CallsV Try.prog 58 #[.string (gstr w_), .int .i64 letters] w0 (fun v w' => ∃ (r0 : Bool), v = .bool r0 ∧ Same w0 w' ∧ K r0) := by
 refine CallsV.of (l := [.string (gstr w_), .int .i64 letters]) Try.func58 rfl Try.ntmps58 rfl ?_
 have hO := Owns.start hA
 have hB := Fr.refl (bl []) w0
 unfold word_Valid at H
 refine Go1.seq ?_
 refine Go1.region ?_
 refine GoR.op ((op_assign rfl) _) rfl rfl ?_
 refine GoR.nil ?_
 refine Go1.seq ?_
 refine Go1.seq ?_
 refine Go1.region ?_
 refine GoR.op ((op_move rfl) _) rfl rfl ?_
 by_cases h1 : letters < (1 : Int)
 ·replace H := ifp h1 H
  refine GoR.op ((fun w => opB (op_lss rfl rfl w) (decide_eq_true h1)) _) rfl rfl ?_
  refine GoR.op ((op_move rfl) _) rfl rfl ?_
  refine GoR.pass rfl rfl ?_
  refine GoR.pass rfl rfl ?_
  refine GoR.op ((op_pickT rfl rfl rfl) _) rfl rfl ?_
  refine GoR.op ((op_move rfl) _) rfl rfl ?_
  refine GoR.pass rfl rfl ?_
  refine GoR.pass rfl rfl ?_
  refine GoR.pass rfl rfl ?_
  refine GoR.op ((op_pickT rfl rfl rfl) _) rfl rfl ?_
  refine GoR.nil ?_
  refine Go1.condT rfl rfl ?_
  refine Go1.seq ?_
  refine Go1.region ?_
  refine GoR.op ((op_assign rfl) _) rfl rfl ?_
  refine GoR.nil ?_
  refine Go1.ret1 Try.func58 rfl ?_
  exact ⟨false, rfl, hB.same, H⟩
 replace H := ifn h1 H
 refine GoR.op ((fun w => opB (op_lss rfl rfl w) (decide_eq_false h1)) _) rfl rfl ?_
 refine GoR.op ((op_move rfl) _) rfl rfl ?_
 refine GoR.op ((op_move rfl) _) rfl rfl ?_
 by_cases h2 : (6 : Int) < letters
 ·replace H := ifp h2 H
  refine GoR.op ((fun w => opB (op_gtr rfl rfl w) (decide_eq_true h2)) _) rfl rfl ?_
  refine GoR.op ((op_pickF rfl rfl rfl) _) rfl rfl ?_
  refine GoR.op ((op_move rfl) _) rfl rfl ?_
  refine GoR.pass rfl rfl ?_
  refine GoR.pass rfl rfl ?_
  refine GoR.pass rfl rfl ?_
  refine GoR.op ((op_pickT rfl rfl rfl) _) rfl rfl ?_
  refine GoR.nil ?_
  refine Go1.condT rfl rfl ?_
  refine Go1.seq ?_
  refine Go1.cut [] trivial ?_
  intro σ _
  refine Go1.region ?_
  refine GoR.op ((op_assign rfl) _) rfl rfl ?_
  refine GoR.nil ?_
  refine Go1.ret1 Try.func58 rfl ?_
  exact ⟨false, rfl, hB.same, H⟩
 replace H := ifn h2 H
 refine GoR.op ((fun w => opB (op_gtr rfl rfl w) (decide_eq_false h2)) _) rfl rfl ?_
 refine GoR.op ((op_pickF rfl rfl rfl) _) rfl rfl ?_
 refine GoR.op ((op_move rfl) _) rfl rfl ?_
 refine GoR.op ((op_move rfl) _) rfl rfl ?_
 refine GoR.op ((op_lenS Try.underlying9 rfl) _) rfl rfl ?_
 replace H := H nw
 by_cases h3 : (2048 : Int) < (w_.length : Int)
 ·replace H := ifp h3 H
  refine GoR.op ((fun w => opB (op_gtr rfl rfl w) (decide_eq_true h3)) _) rfl rfl ?_
  refine GoR.op ((op_pickF rfl rfl rfl) _) rfl rfl ?_
  refine GoR.nil ?_
  refine Go1.condT rfl rfl ?_
  refine Go1.seq ?_
  refine Go1.region ?_
  refine GoR.op ((op_assign rfl) _) rfl rfl ?_
  refine GoR.nil ?_
  refine Go1.ret1 Try.func58 rfl ?_
  exact ⟨false, rfl, hB.same, H⟩
 replace H := ifn h3 H
 refine GoR.op ((fun w => opB (op_gtr rfl rfl w) (decide_eq_false h3)) _) rfl rfl ?_
 refine GoR.op ((op_pickF rfl rfl rfl) _) rfl rfl ?_
 refine GoR.nil ?_
 refine Go1.condF rfl rfl ?_
 refine Go1.skip ?_
 refine Go1.seq ?_
 refine Go1.seq ?_
 refine Go1.region ?_
 refine GoR.op ((op_move rfl) _) rfl rfl ?_
 refine GoR.op ((op_lenS Try.underlying9 rfl) _) rfl rfl ?_
 refine GoR.op ((op_move rfl) _) rfl rfl ?_
 refine GoR.nil ?_
 refine Go1.block ?_
 refine Go1.loopW (S := Nat) (fun s σ w => agrees σ [(0, .string (gstr w_)), (1, .int .i64 letters), (18, .int .i64 (w_.length : Int)), (19, .int .i64 (s : Int))] ∧ Owns w0.heap.size w [] A ∧ Fr (bl []) w0 (bl []) w) H ⟨⟨rfl, rfl, rfl, rfl, trivial⟩, hO, hB⟩ ?_
 intro X1 k1_5
 intro H hX1 σ w4
 refine andE fun hag => andE fun hO => fun hB => ?_
 refine Go1.keep [(0, .string (gstr w_)), (1, .int .i64 letters), (18, .int .i64 (w_.length : Int)), (19, .int .i64 (k1_5 : Int))] hag ?_
 refine Go1.seq ?_
 refine Go1.region ?_
 by_cases h6 : (k1_5 : Int) < (w_.length : Int)
 ·replace H := ifp h6 H
  refine GoR.op ((fun w => opB (op_lss rfl rfl w) (decide_eq_true h6)) _) rfl rfl ?_
  refine GoR.nil ?_
  refine Go1.seq ?_
  refine Go1.condT rfl rfl ?_
  refine Go1.skip ?_
  refine Go1.seq ?_
  refine Go1.block ?_
  refine Go1.seq ?_
  refine Go1.region ?_
  refine GoR.op ((op_move rfl) _) rfl rfl ?_
  refine GoR.op ((op_assign rfl) _) rfl rfl ?_
  refine GoR.nil ?_
  refine Go1.seq ?_
  refine Go1.region ?_
  refine GoR.op ((op_move rfl) _) rfl rfl ?_
  refine GoR.op ((op_move rfl) _) rfl rfl ?_
  obtain ⟨h7, H⟩ := H
  obtain ⟨h8, H⟩ := H
  refine GoR.op ((op_indexS Try.underlying9 rfl rfl h7 h8) _) rfl rfl ?_
  by_cases h9 : ((ix w_ (k1_5 : Int)).toNat : Int) < (97 : Int)
  ·replace H := ifp h9 H
   refine GoR.op ((fun w => opB (op_lss rfl rfl w) (decide_eq_true h9)) _) rfl rfl ?_
   refine GoR.op ((op_move rfl) _) rfl rfl ?_
   refine GoR.pass rfl rfl ?_
   refine GoR.pass rfl rfl ?_
   refine GoR.pass rfl rfl ?_
   refine GoR.pass rfl rfl ?_
   refine GoR.pass rfl rfl ?_
   refine GoR.pass rfl rfl ?_
   refine GoR.pass rfl rfl ?_
   refine GoR.op ((op_pickT rfl rfl rfl) _) rfl rfl ?_
   refine GoR.nil ?_
   refine Go1.condT rfl rfl ?_
   refine Go1.seq ?_
   refine Go1.region ?_
   refine GoR.op ((op_assign rfl) _) rfl rfl ?_
   refine GoR.nil ?_
   refine Go1.ret1 Try.func58 rfl ?_
   exact ⟨false, rfl, hB.same, H⟩
  replace H := ifn h9 H
  refine GoR.op ((fun w => opB (op_lss rfl rfl w) (decide_eq_false h9)) _) rfl rfl ?_
  refine GoR.op ((op_move rfl) _) rfl rfl ?_
  refine GoR.op ((op_move rfl) _) rfl rfl ?_
  refine GoR.op ((op_move rfl) _) rfl rfl ?_
  obtain ⟨h10, H⟩ := H
  obtain ⟨h11, H⟩ := H
  refine GoR.op ((op_indexS Try.underlying9 rfl rfl h10 h11) _) rfl rfl ?_
  refine GoR.op ((op_sub rfl rfl rfl) _) rfl rfl ?_
  refine GoR.op ((op_conv Try.underlying5 Try.underlying3 rfl rfl) _) rfl rfl ?_
  refine GoR.op ((op_move rfl) _) rfl rfl ?_
  by_cases h12 : letters ≤ (IntKind.i64.wrap (IntKind.u8.wrap (((ix w_ (k1_5 : Int)).toNat : Int) - (97 : Int))))
  ·replace H := ifp h12 H
   refine GoR.op ((fun w => opB (op_geq rfl rfl w) (decide_eq_true h12)) _) rfl rfl ?_
   refine GoR.op ((op_pickF rfl rfl rfl) _) rfl rfl ?_
   refine GoR.nil ?_
   refine Go1.condT rfl rfl ?_
   refine Go1.seq ?_
   refine Go1.cut [] trivial ?_
   intro σ _
   refine Go1.region ?_
   refine GoR.op ((op_assign rfl) _) rfl rfl ?_
   refine GoR.nil ?_
   refine Go1.ret1 Try.func58 rfl ?_
   exact ⟨false, rfl, hB.same, H⟩
  replace H := ifn h12 H
  refine GoR.op ((fun w => opB (op_geq rfl rfl w) (decide_eq_false h12)) _) rfl rfl ?_
  refine GoR.op ((op_pickF rfl rfl rfl) _) rfl rfl ?_
  refine GoR.nil ?_
  refine Go1.condF rfl rfl ?_
  refine Go1.skip ?_
  refine Go1.inBlock ?_
  refine Go1.region ?_
  refine GoR.op ((op_add rfl rfl (wrap_i64 (natbd h6 nw))) _) rfl rfl ?_
  refine GoR.op ((op_move rfl) _) rfl rfl ?_
  refine GoR.nil ?_
  exact hX1 _ H _ _ ⟨⟨rfl, rfl, rfl, rfl, trivial⟩, hO, hB⟩
 replace H := ifn h6 H
 refine GoR.op ((fun w => opB (op_lss rfl rfl w) (decide_eq_false h6)) _) rfl rfl ?_
 refine GoR.nil ?_
 refine Go1.seq ?_
 refine Go1.condF rfl rfl ?_
 refine Go1.exit rfl ?_
 refine Go1.seq ?_
 refine Go1.region ?_
 refine GoR.op ((op_assign rfl) _) rfl rfl ?_
 refine GoR.nil ?_
 refine Go1.ret1 Try.func58 rfl ?_
 exact ⟨true, rfl, hB.same, H⟩
theorem body59 : Body Try.prog 59 := ⟨Try.f59, Try.func59, rfl, by kernel_rfl⟩
theorem body57 : Body Try.prog 57 := ⟨Try.f57, Try.func57, rfl, by kernel_rfl⟩
theorem body30 : Body Try.prog 30 := ⟨Try.f30, Try.func30, rfl, by kernel_rfl⟩
theorem walk_enumerate_OfWord {A : List Nat} {w0 : World} {bi : Option Addr} {bj : Nat} {aE : Option Addr} {aF : Nat} {ak : Option Addr} {al : Nat} {aX : Option Addr} {aY : Nat} {aG : Option Addr} {aH : Nat} {aI : Option Addr} {aJ : Nat} {e : Enum} {w_ : Str} (hA : ∀ b ∈ A, b < w0.heap.size) (ah : ISl (Rp.sl (Rp.int .i64)) A w0 bi bj e.Gens) (ae : ISl (Rp.sl (Rp.int .i64)) A w0 aE aF e.Elems) (ac : ISl (Rp.int .i64) A w0 ak al e.Prefix) (ai : ISl (Rp.int .i64) A w0 aX aY e.Last) (af : ISl (Rp.sl (Rp.int .i64)) A w0 aG aH e.Right) (ag : ISl (rpRule) A w0 aI aJ e.Rules) (nw : w_.length ≤ mx) {K : Int → Prop} (H : enumerate_OfWord e w_ K) :
    CallsV Try.prog 30 #[.agg #[.int .i64 e.Points, .bool e.Monoid, .slice bi e.Gens.length bj, .slice aE e.Elems.length aF, .slice ak e.Prefix.length al, .slice aX e.Last.length aY, .slice aG e.Right.length aH, .slice aI e.Rules.length aJ, .int .i64 e.Done], .string (gstr w_)] w0 (fun v w' => ∃ (r0 : Int), v = .int .i64 r0 ∧ Same w0 w' ∧ K r0) := by
 refine CallsV.of (l := [.agg #[.int .i64 e.Points, .bool e.Monoid, .slice bi e.Gens.length bj, .slice aE e.Elems.length aF, .slice ak e.Prefix.length al, .slice aX e.Last.length aY, .slice aG e.Right.length aH, .slice aI e.Rules.length aJ, .int .i64 e.Done], .string (gstr w_)]) Try.func30 rfl Try.ntmps30 rfl ?_
 have hO := Owns.start hA
 have hB := Fr.refl (bl []) w0
 unfold enumerate_OfWord at H
 replace ah := ah.ch (Ch.start A w0)
 replace ae := ae.ch (Ch.start A w0)
 replace ac := ac.ch (Ch.start A w0)
 replace ai := ai.ch (Ch.start A w0)
 replace af := af.ch (Ch.start A w0)
 replace ag := ag.ch (Ch.start A w0)
 refine Go1.seq ?_
 refine Go1.region ?_
 have hobt := obox (t := 29) (v := .agg #[.int .i64 e.Points, .bool e.Monoid, .slice bi e.Gens.length bj, .slice aE e.Elems.length aF, .slice ak e.Prefix.length al, .slice aX e.Last.length aY, .slice aG e.Right.length aH, .slice aI e.Rules.length aJ, .int .i64 e.Done]) (cs := #[.int .i64 e.Points, .bool e.Monoid, .slice bi e.Gens.length bj, .slice aE e.Elems.length aF, .slice ak e.Prefix.length al, .slice aX e.Last.length aY, .slice aG e.Right.length aH, .slice aI e.Rules.length aJ, .int .i64 e.Done]) hO rfl
 obtain ⟨w1, B2, gs, hs4, uF⟩ := hobt
 refine GoR.op (uF rfl) rfl rfl ?_
 replace hO := gs.own
 replace ah := ah.ch gs.ch
 replace ae := ae.ch gs.ch
 replace ac := ac.ch gs.ch
 replace ai := ai.ch gs.ch
 replace af := af.ch gs.ch
 replace ag := ag.ch gs.ch
 replace hB := hB.trans gs.fr
 refine GoR.op ((op_assign rfl) _) rfl rfl ?_
 refine GoR.nil ?_
 refine Go1.seq ?_
 refine Go1.region ?_
 refine GoR.op ((oblkAgg (vs := [.int .i64 e.Points, .bool e.Monoid, .slice bi e.Gens.length bj, .slice aE e.Elems.length aF, .slice ak e.Prefix.length al, .slice aX e.Last.length aY, .slice aG e.Right.length aH, .slice aI e.Rules.length aJ, .int .i64 e.Done]) (i := 0) 0 hO rfl rfl Try.underlying29 rfl ti29 rfl) _ (Same.refl _)) rfl rfl ?_
 refine GoR.inl (vs := [.agg #[.int .i64 e.Points, .bool e.Monoid, .slice bi e.Gens.length bj, .slice aE e.Elems.length aF, .slice ak e.Prefix.length al, .slice aX e.Last.length aY, .slice aG e.Right.length aH, .slice aI e.Rules.length aJ, .int .i64 e.Done]]) (caps := []) rfl rfl body57 Try.func57 rfl Try.ntmps57 rfl rfl rfl ?_
 intro RhR7 hR7
 refine Go1.seq ?_
 refine Go1.region ?_
 have hobt := obox (t := 29) (v := .agg #[.int .i64 e.Points, .bool e.Monoid, .slice bi e.Gens.length bj, .slice aE e.Elems.length aF, .slice ak e.Prefix.length al, .slice aX e.Last.length aY, .slice aG e.Right.length aH, .slice aI e.Rules.length aJ, .int .i64 e.Done]) (cs := #[.int .i64 e.Points, .bool e.Monoid, .slice bi e.Gens.length bj, .slice aE e.Elems.length aF, .slice ak e.Prefix.length al, .slice aX e.Last.length aY, .slice aG e.Right.length aH, .slice aI e.Rules.length aJ, .int .i64 e.Done]) hO rfl
 obtain ⟨w8, B9, rQ, tH, GT⟩ := hobt
 refine GoR.op (GT rfl) rfl rfl ?_
 replace hO := rQ.own
 replace ah := ah.ch rQ.ch
 replace ae := ae.ch rQ.ch
 replace ac := ac.ch rQ.ch
 replace ai := ai.ch rQ.ch
 replace af := af.ch rQ.ch
 replace ag := ag.ch rQ.ch
 replace hB := hB.trans rQ.fr
 refine GoR.op ((op_assign rfl) _) rfl rfl ?_
 refine GoR.op ((op_assign rfl) _) rfl rfl ?_
 refine GoR.nil ?_
 refine Go1.seq ?_
 refine Go1.region ?_
 refine GoR.op ((oblkAgg (vs := [.int .i64 e.Points, .bool e.Monoid, .slice bi e.Gens.length bj, .slice aE e.Elems.length aF, .slice ak e.Prefix.length al, .slice aX e.Last.length aY, .slice aG e.Right.length aH, .slice aI e.Rules.length aJ, .int .i64 e.Done]) (i := 0) 0 hO rfl rfl Try.underlying29 rfl ti29 rfl) _ (Same.refl _)) rfl rfl ?_
 refine GoR.call (op_call body53 rfl (walk_enumerate_replay (e := e) hO.lt ah ae ac ai af ag H)) rfl rfl ?_
 intro v16 w17 hcase20
 refine Or.elim hcase20 ?_ ?_
 ·refine exE fun r15 => andE fun hv21 => andE fun yf => fun H => ?_
  subst hv21
  clear hcase20
  replace H := oElimN H
  have mq := Stp.same hO yf
  replace hO := mq.own
  replace ah := ah.ch mq.ch
  replace ae := ae.ch mq.ch
  replace ac := ac.ch mq.ch
  replace ai := ai.ch mq.ch
  replace af := af.ch mq.ch
  replace ag := ag.ch mq.ch
  replace hB := hB.trans mq.fr
  refine GoR.op ((op_move rfl) _) rfl rfl ?_
  refine GoR.op ((op_extract rfl rfl) _) rfl rfl ?_
  refine GoR.op ((op_extract rfl rfl) _) rfl rfl ?_
  refine GoR.op ((op_assign rfl) _) rfl rfl ?_
  refine GoR.op ((op_assign rfl) _) rfl rfl ?_
  refine GoR.nil ?_
  refine Go1.seq ?_
  refine Go1.region ?_
  refine GoR.op ((op_move rfl) _) rfl rfl ?_
  refine GoR.op ((op_move rfl) _) rfl rfl ?_
  refine GoR.op ((op_move rfl) _) rfl rfl ?_
  cases r15
  ·replace H := ifn Bool.false_ne_true H
   refine GoR.pass rfl rfl ?_
   refine GoR.pass rfl rfl ?_
   refine GoR.op ((op_pickF rfl rfl rfl) _) rfl rfl ?_
   refine GoR.op ((op_assign rfl) _) rfl rfl ?_
   refine GoR.op ((op_assign rfl) _) rfl rfl ?_
   refine GoR.nil ?_
   refine Go1.ret2V Try.func57 rfl (show _ = .pointer none from rfl) (show _ = .bool false from rfl) ?_
   refine hR7 _ _ ?_
   refine GoR.op ((op_move rfl) _) rfl rfl ?_
   refine GoR.op ((op_extract rfl rfl) _) rfl rfl ?_
   refine GoR.op ((op_extract rfl rfl) _) rfl rfl ?_
   refine GoR.op ((op_assign rfl) _) rfl rfl ?_
   refine GoR.op ((op_assign rfl) _) rfl rfl ?_
   refine GoR.nil ?_
   refine Go1.seq ?_
   refine Go1.seq ?_
   refine Go1.cut [(1, .string (gstr w_)), (5, .pointer none), (6, .bool false)] ⟨rfl, rfl, rfl, trivial⟩ ?_
   intro σ _
   refine Go1.region ?_
   refine GoR.op ((op_move rfl) _) rfl rfl ?_
   refine GoR.op ((op_not rfl) _) rfl rfl ?_
   refine GoR.op ((op_move rfl) _) rfl rfl ?_
   refine GoR.pass rfl rfl ?_
   refine GoR.pass rfl rfl ?_
   refine GoR.pass rfl rfl ?_
   refine GoR.pass rfl rfl ?_
   refine GoR.pass rfl rfl ?_
   refine GoR.pass rfl rfl ?_
   refine GoR.pass rfl rfl ?_
   refine GoR.pass rfl rfl ?_
   refine GoR.pass rfl rfl ?_
   refine GoR.op ((op_pickT rfl rfl rfl) _) rfl rfl ?_
   refine GoR.op ((op_move rfl) _) rfl rfl ?_
   refine GoR.pass rfl rfl ?_
   refine GoR.pass rfl rfl ?_
   refine GoR.pass rfl rfl ?_
   refine GoR.pass rfl rfl ?_
   refine GoR.pass rfl rfl ?_
   refine GoR.pass rfl rfl ?_
   refine GoR.pass rfl rfl ?_
   refine GoR.pass rfl rfl ?_
   refine GoR.pass rfl rfl ?_
   refine GoR.pass rfl rfl ?_
   refine GoR.op ((op_pickT rfl rfl rfl) _) rfl rfl ?_
   refine GoR.nil ?_
   refine Go1.condT rfl rfl ?_
   refine Go1.seq ?_
   refine Go1.cut [] trivial ?_
   intro σ _
   refine Go1.region ?_
   refine GoR.op ((op_assign rfl) _) rfl rfl ?_
   refine GoR.nil ?_
   refine Go1.ret1 Try.func30 rfl ?_
   exact ⟨(-1 : Int), rfl, hB.same, H⟩
  replace H := ifp rfl H
  refine GoR.op ((op_move rfl) _) rfl rfl ?_
  refine GoR.inl (vs := [.pointer none]) (caps := []) rfl rfl body50 Try.func50 rfl Try.ntmps50 rfl rfl rfl ?_
  intro RhR23 hR23
  refine Go1.seq ?_
  refine Go1.region ?_
  refine GoR.op ((op_assign rfl) _) rfl rfl ?_
  refine GoR.nil ?_
  refine Go1.seq ?_
  refine Go1.drawS 0 [(0, .pure), (1, .pure), (2, .pure), (3, .pure), (4, .stable), (5, .pure), (6, .pure), (7, .pure), (8, .pure), (9, .stable), (10, .pure), (11, .pure), (12, .pure)] mixed (by kernel_rfl) ?_
  intro w24 Du
  have iT := Stp.same hO Du
  replace hO := iT.own
  replace ah := ah.ch iT.ch
  replace ae := ae.ch iT.ch
  replace ac := ac.ch iT.ch
  replace ai := ai.ch iT.ch
  replace af := af.ch iT.ch
  replace ag := ag.ch iT.ch
  replace hB := hB.trans iT.fr
  refine GoQ.pure rfl (op_move rfl) rfl rfl ?_
  exact H.elim
 ·refine exE fun r14 => exE fun r15 => exE fun dQ => exE fun aL => exE fun aM => exE fun aN => exE fun ck => exE fun av => exE fun aw => exE fun ax => exE fun b9 => exE fun am => exE fun ao => exE fun ap => exE fun bV => exE fun aO => exE fun aP => exE fun aQ => exE fun cl => exE fun ay => exE fun az => exE fun aA => exE fun ca => exE fun aB => exE fun aC => exE fun aD => exE fun cb => exE fun bv => exE fun bN => exE fun bO => exE fun bP => exE fun cT => exE fun bw => exE fun bx => exE fun bz => exE fun cD => exE fun bA => exE fun bB => exE fun bC => exE fun cE => andE fun hv27 => andE fun yf => andE fun hN19 => andE fun cd => andE fun bW => andE fun bU => andE fun cg => andE fun bD => andE fun b8 => andE fun cO => andE fun cC => andE fun cf => fun H => ?_
  subst hv27
  clear hcase20
  replace H := oElimS H
  have qs := Stp.more hO yf hN19
  dsimp only [List.cons_append, List.nil_append] at qs
  replace hO := qs.own
  replace ah := ah.ch qs.ch
  replace ae := ae.ch qs.ch
  replace ac := ac.ch qs.ch
  replace ai := ai.ch qs.ch
  replace af := af.ch qs.ch
  replace ag := ag.ch qs.ch
  replace hB := hB.trans qs.fr
  replace cd := cd.ch (Ch.assoc _ _ _ _)
  dsimp only [List.cons_append, List.nil_append] at cd
  replace bW := bW.ch (Ch.assoc _ _ _ _)
  dsimp only [List.cons_append, List.nil_append] at bW
  replace bU := bU.ch (Ch.assoc _ _ _ _)
  dsimp only [List.cons_append, List.nil_append] at bU
  replace cg := cg.ch (Ch.assoc _ _ _ _)
  dsimp only [List.cons_append, List.nil_append] at cg
  replace bD := bD.ch (Ch.assoc _ _ _ _)
  dsimp only [List.cons_append, List.nil_append] at bD
  replace b8 := b8.ch (Ch.assoc _ _ _ _)
  dsimp only [List.cons_append, List.nil_append] at b8
  replace cO := cO.ch (Ch.assoc _ _ _ _)
  dsimp only [List.cons_append, List.nil_append] at cO
  replace cC := cC.ch (Ch.assoc _ _ _ _)
  dsimp only [List.cons_append, List.nil_append] at cC
  replace cf := cf.ch (Ch.assoc _ _ _ _)
  dsimp only [List.cons_append, List.nil_append] at cf
  refine GoR.op ((op_move rfl) _) rfl rfl ?_
  refine GoR.op ((op_extract rfl rfl) _) rfl rfl ?_
  refine GoR.op ((op_extract rfl rfl) _) rfl rfl ?_
  refine GoR.op ((op_assign rfl) _) rfl rfl ?_
  refine GoR.op ((op_assign rfl) _) rfl rfl ?_
  refine GoR.nil ?_
  refine Go1.seq ?_
  refine Go1.region ?_
  refine GoR.op ((op_move rfl) _) rfl rfl ?_
  refine GoR.op ((op_move rfl) _) rfl rfl ?_
  refine GoR.op ((op_move rfl) _) rfl rfl ?_
  cases r15
  ·replace H := ifn Bool.false_ne_true H
   refine GoR.pass rfl rfl ?_
   refine GoR.pass rfl rfl ?_
   refine GoR.op ((op_pickF rfl rfl rfl) _) rfl rfl ?_
   refine GoR.op ((op_assign rfl) _) rfl rfl ?_
   refine GoR.op ((op_assign rfl) _) rfl rfl ?_
   refine GoR.nil ?_
   refine Go1.ret2V Try.func57 rfl (show _ = .pointer (some ⟨dQ, 0, none⟩) from rfl) (show _ = .bool false from rfl) ?_
   refine hR7 _ _ ?_
   refine GoR.op ((op_move rfl) _) rfl rfl ?_
   refine GoR.op ((op_extract rfl rfl) _) rfl rfl ?_
   refine GoR.op ((op_extract rfl rfl) _) rfl rfl ?_
   refine GoR.op ((op_assign rfl) _) rfl rfl ?_
   refine GoR.op ((op_assign rfl) _) rfl rfl ?_
   refine GoR.nil ?_
   refine Go1.seq ?_
   refine Go1.seq ?_
   refine Go1.cut [(1, .string (gstr w_)), (5, .pointer (some ⟨dQ, 0, none⟩)), (6, .bool false)] ⟨rfl, rfl, rfl, trivial⟩ ?_
   intro σ _
   refine Go1.region ?_
   refine GoR.op ((op_move rfl) _) rfl rfl ?_
   refine GoR.op ((op_not rfl) _) rfl rfl ?_
   refine GoR.op ((op_move rfl) _) rfl rfl ?_
   refine GoR.pass rfl rfl ?_
   refine GoR.pass rfl rfl ?_
   refine GoR.pass rfl rfl ?_
   refine GoR.pass rfl rfl ?_
   refine GoR.pass rfl rfl ?_
   refine GoR.pass rfl rfl ?_
   refine GoR.pass rfl rfl ?_
   refine GoR.pass rfl rfl ?_
   refine GoR.pass rfl rfl ?_
   refine GoR.op ((op_pickT rfl rfl rfl) _) rfl rfl ?_
   refine GoR.op ((op_move rfl) _) rfl rfl ?_
   refine GoR.pass rfl rfl ?_
   refine GoR.pass rfl rfl ?_
   refine GoR.pass rfl rfl ?_
   refine GoR.pass rfl rfl ?_
   refine GoR.pass rfl rfl ?_
   refine GoR.pass rfl rfl ?_
   refine GoR.pass rfl rfl ?_
   refine GoR.pass rfl rfl ?_
   refine GoR.pass rfl rfl ?_
   refine GoR.pass rfl rfl ?_
   refine GoR.op ((op_pickT rfl rfl rfl) _) rfl rfl ?_
   refine GoR.nil ?_
   refine Go1.condT rfl rfl ?_
   refine Go1.seq ?_
   refine Go1.cut [] trivial ?_
   intro σ _
   refine Go1.region ?_
   refine GoR.op ((op_assign rfl) _) rfl rfl ?_
   refine GoR.nil ?_
   refine Go1.ret1 Try.func30 rfl ?_
   exact ⟨(-1 : Int), rfl, hB.same, H⟩
  replace H := ifp rfl H
  refine GoR.op ((op_move rfl) _) rfl rfl ?_
  refine GoR.inl (vs := [.pointer (some ⟨dQ, 0, none⟩)]) (caps := []) rfl rfl body50 Try.func50 rfl Try.ntmps50 rfl rfl rfl ?_
  intro RhR40 hR40
  refine Go1.seq ?_
  refine Go1.region ?_
  refine GoR.op ((op_assign rfl) _) rfl rfl ?_
  refine GoR.nil ?_
  refine Go1.seq ?_
  refine Go1.drawS 0 [(0, .pure), (1, .pure), (2, .pure), (3, .pure), (4, .stable), (5, .pure), (6, .pure), (7, .pure), (8, .pure), (9, .stable), (10, .pure), (11, .pure), (12, .pure)] mixed (by kernel_rfl) ?_
  intro w41 AR
  have f9 := Stp.same hO AR
  replace cd := cd.ch f9.ch
  replace bW := bW.ch f9.ch
  replace bU := bU.ch f9.ch
  replace cg := cg.ch f9.ch
  replace bD := bD.ch f9.ch
  replace b8 := b8.ch f9.ch
  replace cO := cO.ch f9.ch
  replace cC := cC.ch f9.ch
  replace cf := cf.ch f9.ch
  replace hO := f9.own
  replace ah := ah.ch f9.ch
  replace ae := ae.ch f9.ch
  replace ac := ac.ch f9.ch
  replace ai := ai.ch f9.ch
  replace af := af.ch f9.ch
  replace ag := ag.ch f9.ch
  replace hB := hB.trans f9.fr
  refine GoQ.pure rfl (op_move rfl) rfl rfl ?_
  refine GoQ.pure rfl (op_nilCheck rfl) rfl rfl ?_
  refine GoQ.pure rfl (op_fieldAddr Try.underlying72 rfl ti29 rfl (by decide)) rfl rfl ?_
  refine GoQ.pure rfl (op_fieldAddr Try.underlying29 rfl ti3 rfl (by decide)) rfl rfl ?_
  refine GoQ.stable rfl (oblk (i := 8) 0 hO rfl rfl Try.underlying3 rfl rfl) rfl rfl ?_
  refine GoQ.pure rfl (op_move rfl) rfl rfl ?_
  refine GoQ.pure rfl (op_nilCheck rfl) rfl rfl ?_
  refine GoQ.pure rfl (op_fieldAddr Try.underlying72 rfl ti29 rfl (by decide)) rfl rfl ?_
  refine GoQ.pure rfl (op_fieldAddr Try.underlying29 rfl ti22 rfl (by decide)) rfl rfl ?_
  refine GoQ.stable rfl (oblk (i := 3) 0 hO rfl rfl Try.underlying22 rfl rfl) rfl rfl ?_
  refine GoQ.pure rfl (op_lenN Try.underlying22 rfl (bW.neq hO 2 rfl)) rfl rfl ?_
  by_cases h44 : r14.Enum.Done = (r14.Enum.Elems.length : Int)
  ·replace H := ifp h44 H
   refine GoQ.pure rfl (fun w => opB (op_eql rfl rfl w) (decide_eq_true h44)) rfl rfl ?_
   refine GoQ.pure rfl (op_assign rfl) rfl rfl ?_
   refine GoQ.nil ?_
   refine Go1.ret1V Try.func50 rfl (show _ = .bool true from rfl) ?_
   refine hR40 _ _ ?_
   refine GoR.op ((op_pickT rfl rfl rfl) _) rfl rfl ?_
   refine GoR.op ((op_assign rfl) _) rfl rfl ?_
   refine GoR.op ((op_assign rfl) _) rfl rfl ?_
   refine GoR.nil ?_
   refine Go1.ret2V Try.func57 rfl (show _ = .pointer (some ⟨dQ, 0, none⟩) from rfl) (show _ = .bool true from rfl) ?_
   refine hR7 _ _ ?_
   refine GoR.op ((op_move rfl) _) rfl rfl ?_
   refine GoR.op ((op_extract rfl rfl) _) rfl rfl ?_
   refine GoR.op ((op_extract rfl rfl) _) rfl rfl ?_
   refine GoR.op ((op_assign rfl) _) rfl rfl ?_
   refine GoR.op ((op_assign rfl) _) rfl rfl ?_
   refine GoR.nil ?_
   refine Go1.seq ?_
   refine Go1.seq ?_
   refine Go1.cut [(1, .string (gstr w_)), (5, .pointer (some ⟨dQ, 0, none⟩)), (6, .bool true)] ⟨rfl, rfl, rfl, trivial⟩ ?_
   intro σ _
   refine Go1.region ?_
   refine GoR.op ((op_move rfl) _) rfl rfl ?_
   refine GoR.op ((op_not rfl) _) rfl rfl ?_
   refine GoR.op ((op_move rfl) _) rfl rfl ?_
   refine GoR.op ((op_move rfl) _) rfl rfl ?_
   refine GoR.op ((op_move rfl) _) rfl rfl ?_
   refine GoR.op ((op_nilCheck rfl) _) rfl rfl ?_
   refine GoR.op ((op_fieldAddr Try.underlying72 rfl ti29 rfl (by decide)) _) rfl rfl ?_
   refine GoR.op ((op_fieldAddr Try.underlying29 rfl ti22 rfl (by decide)) _) rfl rfl ?_
   refine GoR.op ((oblk (i := 2) 0 hO rfl rfl Try.underlying22 rfl rfl) _ (Same.refl _)) rfl rfl ?_
   refine GoR.op ((op_lenN Try.underlying22 rfl (cd.neq hO 1 rfl)) _) rfl rfl ?_
   refine GoR.call (op_call body58 rfl (walk_word_Valid hO.lt nw H)) rfl rfl ?_
   rintro v49 w46 ⟨r45, rfl, AT, H⟩
   have nQ := Stp.same hO AT
   replace cd := cd.ch nQ.ch
   replace bW := bW.ch nQ.ch
   replace bU := bU.ch nQ.ch
   replace cg := cg.ch nQ.ch
   replace bD := bD.ch nQ.ch
   replace b8 := b8.ch nQ.ch
   replace cO := cO.ch nQ.ch
   replace cC := cC.ch nQ.ch
   replace cf := cf.ch nQ.ch
   replace hO := nQ.own
   replace ah := ah.ch nQ.ch
   replace ae := ae.ch nQ.ch
   replace ac := ac.ch nQ.ch
   replace ai := ai.ch nQ.ch
   replace af := af.ch nQ.ch
   replace ag := ag.ch nQ.ch
   replace hB := hB.trans nQ.fr
   cases r45
   ·replace H := ifn Bool.false_ne_true H
    refine GoR.op ((op_not rfl) _) rfl rfl ?_
    refine GoR.op ((op_pickF rfl rfl rfl) _) rfl rfl ?_
    refine GoR.op ((op_move rfl) _) rfl rfl ?_
    refine GoR.pass rfl rfl ?_
    refine GoR.pass rfl rfl ?_
    refine GoR.pass rfl rfl ?_
    refine GoR.pass rfl rfl ?_
    refine GoR.pass rfl rfl ?_
    refine GoR.pass rfl rfl ?_
    refine GoR.pass rfl rfl ?_
    refine GoR.pass rfl rfl ?_
    refine GoR.pass rfl rfl ?_
    refine GoR.pass rfl rfl ?_
    refine GoR.op ((op_pickT rfl rfl rfl) _) rfl rfl ?_
    refine GoR.nil ?_
    refine Go1.condT rfl rfl ?_
    refine Go1.seq ?_
    refine Go1.cut [] trivial ?_
    intro σ _
    refine Go1.region ?_
    refine GoR.op ((op_assign rfl) _) rfl rfl ?_
    refine GoR.nil ?_
    refine Go1.ret1 Try.func30 rfl ?_
    exact ⟨(-1 : Int), rfl, hB.same, H⟩
   replace H := ifp rfl H
   refine GoR.op ((op_not rfl) _) rfl rfl ?_
   refine GoR.op ((op_pickF rfl rfl rfl) _) rfl rfl ?_
   refine GoR.op ((op_move rfl) _) rfl rfl ?_
   refine GoR.op ((op_move rfl) _) rfl rfl ?_
   by_cases h51 : w_ = (([] : Str))
   ·replace H := ifp h51 H
    refine GoR.op ((fun w => opB (op_eqlS rfl rfl w) (decide_eq_true h51)) _) rfl rfl ?_
    refine GoR.op ((op_move rfl) _) rfl rfl ?_
    refine GoR.op ((op_move rfl) _) rfl rfl ?_
    refine GoR.op ((op_nilCheck rfl) _) rfl rfl ?_
    refine GoR.op ((op_fieldAddr Try.underlying72 rfl ti29 rfl (by decide)) _) rfl rfl ?_
    refine GoR.op ((op_fieldAddr Try.underlying29 rfl ti4 rfl (by decide)) _) rfl rfl ?_
    by_cases h52 : r14.Enum.Monoid = true
    ·replace H := ifp h52 H
     refine GoR.op (opB ((oblk (i := 1) 0 hO rfl rfl Try.underlying4 rfl rfl) _ (Same.refl _)) (h52)) rfl rfl ?_
     refine GoR.op ((op_not rfl) _) rfl rfl ?_
     refine GoR.op ((op_pickT rfl rfl rfl) _) rfl rfl ?_
     refine GoR.op ((op_pickF rfl rfl rfl) _) rfl rfl ?_
     refine GoR.nil ?_
     refine Go1.condF rfl rfl ?_
     refine Go1.skip ?_
     refine Go1.seq ?_
     refine Go1.region ?_
     refine GoR.op ((op_move rfl) _) rfl rfl ?_
     refine GoR.op ((op_move rfl) _) rfl rfl ?_
     refine GoR.inl (vs := [.pointer (some ⟨dQ, 0, none⟩), .int .i64 (-1 : Int), .string (gstr w_)]) (caps := []) rfl rfl body59 Try.func59 rfl Try.ntmps59 rfl rfl rfl ?_
     intro RhR53 hR53
     refine Go1.seq ?_
     refine Go1.region ?_
     refine GoR.op ((op_assign rfl) _) rfl rfl ?_
     refine GoR.nil ?_
     refine Go1.seq ?_
     refine Go1.seq ?_
     refine Go1.cut [(0, .pointer (some ⟨dQ, 0, none⟩)), (1, .int .i64 (-1 : Int)), (2, .string (gstr w_))] ⟨rfl, rfl, rfl, trivial⟩ ?_
     intro σ _
     refine Go1.region ?_
     refine GoR.op ((op_move rfl) _) rfl rfl ?_
     by_cases h54 : (-1 : Int) = (-1 : Int)
     ·replace H := ifp h54 H
      refine GoR.op ((fun w => opB (op_eql rfl rfl w) (decide_eq_true h54)) _) rfl rfl ?_
      refine GoR.op ((op_move rfl) _) rfl rfl ?_
      refine GoR.op ((op_move rfl) _) rfl rfl ?_
      refine GoR.op ((fun w => opB (op_eqlS rfl rfl w) (decide_eq_true h51)) _) rfl rfl ?_
      refine GoR.op ((op_pickT rfl rfl rfl) _) rfl rfl ?_
      refine GoR.nil ?_
      refine Go1.condT rfl rfl ?_
      refine Go1.seq ?_
      refine Go1.region ?_
      refine GoR.op ((op_assign rfl) _) rfl rfl ?_
      refine GoR.nil ?_
      refine Go1.ret1V Try.func59 rfl (show _ = .int .i64 (0 : Int) from rfl) ?_
      refine hR53 _ _ ?_
      refine GoR.op ((op_assign rfl) _) rfl rfl ?_
      refine GoR.nil ?_
      refine Go1.ret1 Try.func30 rfl ?_
      exact ⟨(0 : Int), rfl, hB.same, H⟩
     replace H := ifn h54 H
     refine GoR.op ((fun w => opB (op_eql rfl rfl w) (decide_eq_false h54)) _) rfl rfl ?_
     refine GoR.op ((op_move rfl) _) rfl rfl ?_
     refine GoR.pass rfl rfl ?_
     refine GoR.pass rfl rfl ?_
     refine GoR.op ((op_pickF rfl rfl rfl) _) rfl rfl ?_
     refine GoR.nil ?_
     refine Go1.condF rfl rfl ?_
     refine Go1.skip ?_
     refine Go1.seq ?_
     refine Go1.seq ?_
     refine Go1.region ?_
     refine GoR.op ((op_move rfl) _) rfl rfl ?_
     refine GoR.op ((op_lenS Try.underlying9 rfl) _) rfl rfl ?_
     replace H := H nw
     refine GoR.op ((op_move rfl) _) rfl rfl ?_
     refine GoR.nil ?_
     refine Go1.block ?_
     replace ah := ah.ch (Owns.dropCh _ _ 11)
     replace ae := ae.ch (Owns.dropCh _ _ 11)
     replace ac := ac.ch (Owns.dropCh _ _ 11)
     replace ai := ai.ch (Owns.dropCh _ _ 11)
     replace af := af.ch (Owns.dropCh _ _ 11)
     replace ag := ag.ch (Owns.dropCh _ _ 11)
     replace cd := cd.ch (Owns.dropCh _ _ 11)
     replace bW := bW.ch (Owns.dropCh _ _ 11)
     replace bU := bU.ch (Owns.dropCh _ _ 11)
     replace cg := cg.ch (Owns.dropCh _ _ 11)
     replace bD := bD.ch (Owns.dropCh _ _ 11)
     replace b8 := b8.ch (Owns.dropCh _ _ 11)
     replace cO := cO.ch (Owns.dropCh _ _ 11)
     replace cC := cC.ch (Owns.dropCh _ _ 11)
     replace cf := cf.ch (Owns.dropCh _ _ 11)
     replace hB := hB.trans (Owns.dropFr _ _ 11)
     replace hO := hO.drop 11
     dsimp only [eS, eZ] at hB hO ah ae ac ai af ag cd bW bU cg bD b8 cO cC cf
     replace ah := ah.ch (Owns.dropCh _ _ 11)
     replace ae := ae.ch (Owns.dropCh _ _ 11)
     replace ac := ac.ch (Owns.dropCh _ _ 11)
     replace ai := ai.ch (Owns.dropCh _ _ 11)
     replace af := af.ch (Owns.dropCh _ _ 11)
     replace ag := ag.ch (Owns.dropCh _ _ 11)
     replace cd := cd.ch (Owns.dropCh _ _ 11)
     replace bW := bW.ch (Owns.dropCh _ _ 11)
     replace bU := bU.ch (Owns.dropCh _ _ 11)
     replace cg := cg.ch (Owns.dropCh _ _ 11)
     replace bD := bD.ch (Owns.dropCh _ _ 11)
     replace b8 := b8.ch (Owns.dropCh _ _ 11)
     replace cO := cO.ch (Owns.dropCh _ _ 11)
     replace cC := cC.ch (Owns.dropCh _ _ 11)
     replace cf := cf.ch (Owns.dropCh _ _ 11)
     replace hB := hB.trans (Owns.dropFr _ _ 11)
     replace hO := hO.drop 11
     dsimp only [eS, eZ] at hB hO ah ae ac ai af ag cd bW bU cg bD b8 cO cC cf
     refine Go1.loopW (S := Int × Nat) (fun s σ w => match s with | (i1_56, k1_57) => agrees σ [(0, .pointer (some ⟨dQ, 0, none⟩)), (1, .int .i64 i1_56), (2, .string (gstr w_)), (15, .int .i64 (w_.length : Int)), (16, .int .i64 (k1_57 : Int))] ∧ Owns w0.heap.size w [.blk dQ (.cells #[.int .i64 r14.Enum.Points, .bool r14.Enum.Monoid, .slice aM aL aN, .slice aw av ax, .slice ao am ap, .slice aP aO aQ, .slice az ay aA, .slice aC aB aD, .int .i64 r14.Enum.Done, .map (some bv), .slice bO bN bP, .slice bx bw bz, .slice bB bA bC] 72 (0, 0)), .row 26 1 aM aL aN ck, .row 26 1 aw av ax b9, .row 3 1 ao am ap bV, .row 3 1 aP aO aQ cl, .row 26 1 az ay aA ca, .row 39 2 aC aB aD cb, .row 9 1 bO bN bP cT, .row 3 1 bx bw bz cD, .row 3 1 bB bA bC cE, .any (mapE (fun a : List UInt8 => Value.string (gstr a)) (fun a : Int => Value.int .i64 a) bv r14.number)] A ∧ Els (Rp.sl (Rp.int .i64)) (bl [.blk dQ (.cells #[.int .i64 r14.Enum.Points, .bool r14.Enum.Monoid, .slice aM aL aN, .slice aw av ax, .slice ao am ap, .slice aP aO aQ, .slice az ay aA, .slice aC aB aD, .int .i64 r14.Enum.Done, .map (some bv), .slice bO bN bP, .slice bx bw bz, .slice bB bA bC] 72 (0, 0)), .row 26 1 aM aL aN ck, .row 26 1 aw av ax b9, .row 3 1 ao am ap bV, .row 3 1 aP aO aQ cl, .row 26 1 az ay aA ca, .row 39 2 aC aB aD cb, .row 9 1 bO bN bP cT, .row 3 1 bx bw bz cD, .row 3 1 bB bA bC cE, .any (mapE (fun a : List UInt8 => Value.string (gstr a)) (fun a : Int => Value.int .i64 a) bv r14.number)] ++ A) w ck r14.Enum.Gens ∧ Els (Rp.sl (Rp.int .i64)) (bl [.blk dQ (.cells #[.int .i64 r14.Enum.Points, .bool r14.Enum.Monoid, .slice aM aL aN, .slice aw av ax, .slice ao am ap, .slice aP aO aQ, .slice az ay aA, .slice aC aB aD, .int .i64 r14.Enum.Done, .map (some bv), .slice bO bN bP, .slice bx bw bz, .slice bB bA bC] 72 (0, 0)), .row 26 1 aM aL aN ck, .row 26 1 aw av ax b9, .row 3 1 ao am ap bV, .row 3 1 aP aO aQ cl, .row 26 1 az ay aA ca, .row 39 2 aC aB aD cb, .row 9 1 bO bN bP cT, .row 3 1 bx bw bz cD, .row 3 1 bB bA bC cE, .any (mapE (fun a : List UInt8 => Value.string (gstr a)) (fun a : Int => Value.int .i64 a) bv r14.number)] ++ A) w b9 r14.Enum.Elems ∧ Els (Rp.int .i64) (bl [.blk dQ (.cells #[.int .i64 r14.Enum.Points, .bool r14.Enum.Monoid, .slice aM aL aN, .slice aw av ax, .slice ao am ap, .slice aP aO aQ, .slice az ay aA, .slice aC aB aD, .int .i64 r14.Enum.Done, .map (some bv), .slice bO bN bP, .slice bx bw bz, .slice bB bA bC] 72 (0, 0)), .row 26 1 aM aL aN ck, .row 26 1 aw av ax b9, .row 3 1 ao am ap bV, .row 3 1 aP aO aQ cl, .row 26 1 az ay aA ca, .row 39 2 aC aB aD cb, .row 9 1 bO bN bP cT, .row 3 1 bx bw bz cD, .row 3 1 bB bA bC cE, .any (mapE (fun a : List UInt8 => Value.string (gstr a)) (fun a : Int => Value.int .i64 a) bv r14.number)] ++ A) w bV r14.Enum.Prefix ∧ Els (Rp.int .i64) (bl [.blk dQ (.cells #[.int .i64 r14.Enum.Points, .bool r14.Enum.Monoid, .slice aM aL aN, .slice aw av ax, .slice ao am ap, .slice aP aO aQ, .slice az ay aA, .slice aC aB aD, .int .i64 r14.Enum.Done, .map (some bv), .slice bO bN bP, .slice bx bw bz, .slice bB bA bC] 72 (0, 0)), .row 26 1 aM aL aN ck, .row 26 1 aw av ax b9, .row 3 1 ao am ap bV, .row 3 1 aP aO aQ cl, .row 26 1 az ay aA ca, .row 39 2 aC aB aD cb, .row 9 1 bO bN bP cT, .row 3 1 bx bw bz cD, .row 3 1 bB bA bC cE, .any (mapE (fun a : List UInt8 => Value.string (gstr a)) (fun a : Int => Value.int .i64 a) bv r14.number)] ++ A) w cl r14.Enum.Last ∧ Els (Rp.sl (Rp.int .i64)) (bl [.blk dQ (.cells #[.int .i64 r14.Enum.Points, .bool r14.Enum.Monoid, .slice aM aL aN, .slice aw av ax, .slice ao am ap, .slice aP aO aQ, .slice az ay aA, .slice aC aB aD, .int .i64 r14.Enum.Done, .map (some bv), .slice bO bN bP, .slice bx bw bz, .slice bB bA bC] 72 (0, 0)), .row 26 1 aM aL aN ck, .row 26 1 aw av ax b9, .row 3 1 ao am ap bV, .row 3 1 aP aO aQ cl, .row 26 1 az ay aA ca, .row 39 2 aC aB aD cb, .row 9 1 bO bN bP cT, .row 3 1 bx bw bz cD, .row 3 1 bB bA bC cE, .any (mapE (fun a : List UInt8 => Value.string (gstr a)) (fun a : Int => Value.int .i64 a) bv r14.number)] ++ A) w ca r14.Enum.Right ∧ Els (rpRule) (bl [.blk dQ (.cells #[.int .i64 r14.Enum.Points, .bool r14.Enum.Monoid, .slice aM aL aN, .slice aw av ax, .slice ao am ap, .slice aP aO aQ, .slice az ay aA, .slice aC aB aD, .int .i64 r14.Enum.Done, .map (some bv), .slice bO bN bP, .slice bx bw bz, .slice bB bA bC] 72 (0, 0)), .row 26 1 aM aL aN ck, .row 26 1 aw av ax b9, .row 3 1 ao am ap bV, .row 3 1 aP aO aQ cl, .row 26 1 az ay aA ca, .row 39 2 aC aB aD cb, .row 9 1 bO bN bP cT, .row 3 1 bx bw bz cD, .row 3 1 bB bA bC cE, .any (mapE (fun a : List UInt8 => Value.string (gstr a)) (fun a : Int => Value.int .i64 a) bv r14.number)] ++ A) w cb r14.Enum.Rules ∧ Els (Rp.str) (bl [.blk dQ (.cells #[.int .i64 r14.Enum.Points, .bool r14.Enum.Monoid, .slice aM aL aN, .slice aw av ax, .slice ao am ap, .slice aP aO aQ, .slice az ay aA, .slice aC aB aD, .int .i64 r14.Enum.Done, .map (some bv), .slice bO bN bP, .slice bx bw bz, .slice bB bA bC] 72 (0, 0)), .row 26 1 aM aL aN ck, .row 26 1 aw av ax b9, .row 3 1 ao am ap bV, .row 3 1 aP aO aQ cl, .row 26 1 az ay aA ca, .row 39 2 aC aB aD cb, .row 9 1 bO bN bP cT, .row 3 1 bx bw bz cD, .row 3 1 bB bA bC cE, .any (mapE (fun a : List UInt8 => Value.string (gstr a)) (fun a : Int => Value.int .i64 a) bv r14.number)] ++ A) w cT r14.words ∧ Els (Rp.int .i64) (bl [.blk dQ (.cells #[.int .i64 r14.Enum.Points, .bool r14.Enum.Monoid, .slice aM aL aN, .slice aw av ax, .slice ao am ap, .slice aP aO aQ, .slice az ay aA, .slice aC aB aD, .int .i64 r14.Enum.Done, .map (some bv), .slice bO bN bP, .slice bx bw bz, .slice bB bA bC] 72 (0, 0)), .row 26 1 aM aL aN ck, .row 26 1 aw av ax b9, .row 3 1 ao am ap bV, .row 3 1 aP aO aQ cl, .row 26 1 az ay aA ca, .row 39 2 aC aB aD cb, .row 9 1 bO bN bP cT, .row 3 1 bx bw bz cD, .row 3 1 bB bA bC cE, .any (mapE (fun a : List UInt8 => Value.string (gstr a)) (fun a : Int => Value.int .i64 a) bv r14.number)] ++ A) w cD r14.behind ∧ Els (Rp.int .i64) (bl [.blk dQ (.cells #[.int .i64 r14.Enum.Points, .bool r14.Enum.Monoid, .slice aM aL aN, .slice aw av ax, .slice ao am ap, .slice aP aO aQ, .slice az ay aA, .slice aC aB aD, .int .i64 r14.Enum.Done, .map (some bv), .slice bO bN bP, .slice bx bw bz, .slice bB bA bC] 72 (0, 0)), .row 26 1 aM aL aN ck, .row 26 1 aw av ax b9, .row 3 1 ao am ap bV, .row 3 1 aP aO aQ cl, .row 26 1 az ay aA ca, .row 39 2 aC aB aD cb, .row 9 1 bO bN bP cT, .row 3 1 bx bw bz cD, .row 3 1 bB bA bC cE, .any (mapE (fun a : List UInt8 => Value.string (gstr a)) (fun a : Int => Value.int .i64 a) bv r14.number)] ++ A) w cE r14.single ∧ Fr (bl []) w0 (bl [.blk dQ (.cells #[.int .i64 r14.Enum.Points, .bool r14.Enum.Monoid, .slice aM aL aN, .slice aw av ax, .slice ao am ap, .slice aP aO aQ, .slice az ay aA, .slice aC aB aD, .int .i64 r14.Enum.Done, .map (some bv), .slice bO bN bP, .slice bx bw bz, .slice bB bA bC] 72 (0, 0)), .row 26 1 aM aL aN ck, .row 26 1 aw av ax b9, .row 3 1 ao am ap bV, .row 3 1 aP aO aQ cl, .row 26 1 az ay aA ca, .row 39 2 aC aB aD cb, .row 9 1 bO bN bP cT, .row 3 1 bx bw bz cD, .row 3 1 bB bA bC cE, .any (mapE (fun a : List UInt8 => Value.string (gstr a)) (fun a : Int => Value.int .i64 a) bv r14.number)]) w) H ⟨⟨rfl, rfl, rfl, rfl, rfl, trivial⟩, hO, cd, bW, bU, cg, bD, b8, cO, cC, cf, hB⟩ ?_
     intro X1
     refine prE fun i1_56 => fun k1_57 => ?_
     intro H hX1 σ w55
     refine andE fun hag => andE fun hO => andE fun cd => andE fun bW => andE fun bU => andE fun cg => andE fun bD => andE fun b8 => andE fun cO => andE fun cC => andE fun cf => fun hB => ?_
     dsimp only at H
     refine Go1.keep [(0, .pointer (some ⟨dQ, 0, none⟩)), (1, .int .i64 i1_56), (2, .string (gstr w_)), (15, .int .i64 (w_.length : Int)), (16, .int .i64 (k1_57 : Int))] hag ?_
     refine Go1.seq ?_
     refine Go1.region ?_
     by_cases h58 : (k1_57 : Int) < (w_.length : Int)
     ·replace H := ifp h58 H
      refine GoR.op ((fun w => opB (op_lss rfl rfl w) (decide_eq_true h58)) _) rfl rfl ?_
      refine GoR.nil ?_
      refine Go1.seq ?_
      refine Go1.condT rfl rfl ?_
      refine Go1.skip ?_
      refine Go1.seq ?_
      refine Go1.block ?_
      refine Go1.seq ?_
      refine Go1.region ?_
      refine GoR.op ((op_move rfl) _) rfl rfl ?_
      refine GoR.op ((op_assign rfl) _) rfl rfl ?_
      refine GoR.nil ?_
      refine Go1.region ?_
      refine GoR.op ((op_move rfl) _) rfl rfl ?_
      refine GoR.op ((op_move rfl) _) rfl rfl ?_
      refine GoR.op ((op_move rfl) _) rfl rfl ?_
      refine GoR.op ((op_move rfl) _) rfl rfl ?_
      obtain ⟨h59, H⟩ := H
      obtain ⟨h60, H⟩ := H
      refine GoR.op ((op_indexS Try.underlying9 rfl rfl h59 h60) _) rfl rfl ?_
      refine GoR.op ((op_sub rfl rfl rfl) _) rfl rfl ?_
      refine GoR.op ((op_conv Try.underlying5 Try.underlying3 rfl rfl) _) rfl rfl ?_
      refine GoR.inl (vs := [.pointer (some ⟨dQ, 0, none⟩), .int .i64 i1_56, .int .i64 (IntKind.i64.wrap (IntKind.u8.wrap (((ix w_ (k1_57 : Int)).toNat : Int) - (97 : Int))))]) (caps := []) rfl rfl body66 Try.func66 rfl Try.ntmps66 rfl rfl rfl ?_
      intro RhR61 hR61
      refine Go1.seq ?_
      refine Go1.region ?_
      refine GoR.op ((op_assign rfl) _) rfl rfl ?_
      refine GoR.nil ?_
      refine Go1.seq ?_
      refine Go1.seq ?_
      refine Go1.region ?_
      refine GoR.op ((op_move rfl) _) rfl rfl ?_
      by_cases h62 : i1_56 = (-1 : Int)
      ·replace H := ifp h62 H
       refine GoR.op ((fun w => opB (op_eql rfl rfl w) (decide_eq_true h62)) _) rfl rfl ?_
       refine GoR.nil ?_
       refine Go1.condT rfl rfl ?_
       refine Go1.seq ?_
       refine Go1.region ?_
       refine GoR.op ((op_move rfl) _) rfl rfl ?_
       refine GoR.op ((op_nilCheck rfl) _) rfl rfl ?_
       refine GoR.op ((op_fieldAddr Try.underlying72 rfl ti26 rfl (by decide)) _) rfl rfl ?_
       refine GoR.op ((oblk (i := 12) 0 hO rfl rfl Try.underlying26 rfl rfl) _ (Same.refl _)) rfl rfl ?_
       refine GoR.op ((op_move rfl) _) rfl rfl ?_
       obtain ⟨h63, H⟩ := H
       obtain ⟨h64, H⟩ := H
       refine GoR.op ((op_index Try.underlying26 ti3 rfl rfl h63 (ltn (cf.neq hO 9 rfl) h64) (cf.psome hO 9 rfl h63 h64)) _) rfl rfl ?_
       refine GoR.op ((oldInt 9 hO rfl cf h63 h64 Try.underlying3 rfl rfl) _ (Same.refl _)) rfl rfl ?_
       refine GoR.op ((op_assign rfl) _) rfl rfl ?_
       refine GoR.nil ?_
       refine Go1.ret1V Try.func66 rfl (show _ = .int .i64 (ix r14.single (IntKind.i64.wrap (IntKind.u8.wrap (((ix w_ (k1_57 : Int)).toNat : Int) - (97 : Int))))) from rfl) ?_
       refine hR61 _ _ ?_
       refine GoR.op ((op_assign rfl) _) rfl rfl ?_
       refine GoR.nil ?_
       refine Go1.inBlock ?_
       refine Go1.cut [(0, .pointer (some ⟨dQ, 0, none⟩)), (1, .int .i64 (ix r14.single (IntKind.i64.wrap (IntKind.u8.wrap (((ix w_ (k1_57 : Int)).toNat : Int) - (97 : Int)))))), (2, .string (gstr w_)), (15, .int .i64 (w_.length : Int)), (16, .int .i64 (k1_57 : Int))] ⟨rfl, rfl, rfl, rfl, rfl, trivial⟩ ?_
       intro σ _
       refine Go1.region ?_
       refine GoR.op ((op_add rfl rfl (wrap_i64 (natbd h58 nw))) _) rfl rfl ?_
       refine GoR.op ((op_move rfl) _) rfl rfl ?_
       refine GoR.nil ?_
       exact hX1 _ H _ _ ⟨⟨rfl, rfl, rfl, rfl, rfl, trivial⟩, hO, cd, bW, bU, cg, bD, b8, cO, cC, cf, hB⟩
      replace H := ifn h62 H
      refine GoR.op ((fun w => opB (op_eql rfl rfl w) (decide_eq_false h62)) _) rfl rfl ?_
      refine GoR.nil ?_
      refine Go1.condF rfl rfl ?_
      refine Go1.skip ?_
      refine Go1.seq ?_
      refine Go1.region ?_
      refine GoR.op ((op_move rfl) _) rfl rfl ?_
      refine GoR.op ((op_nilCheck rfl) _) rfl rfl ?_
      refine GoR.op ((op_fieldAddr Try.underlying72 rfl ti29 rfl (by decide)) _) rfl rfl ?_
      refine GoR.op ((op_fieldAddr Try.underlying29 rfl ti22 rfl (by decide)) _) rfl rfl ?_
      refine GoR.op ((oblk (i := 6) 0 hO rfl rfl Try.underlying22 rfl rfl) _ (Same.refl _)) rfl rfl ?_
      refine GoR.op ((op_move rfl) _) rfl rfl ?_
      obtain ⟨h65, H⟩ := H
      obtain ⟨h66, H⟩ := H
      refine GoR.op ((op_index Try.underlying22 ti26 rfl rfl h65 (ltn (bD.neq hO 5 rfl) h66) (bD.psome hO 5 rfl h65 h66)) _) rfl rfl ?_
      have hobt := oldSl 5 hO rfl bD h65 h66
      obtain ⟨p67, c68, Dw, IW⟩ := hobt
      refine GoR.op ((IW Try.underlying26 rfl rfl) _ (Same.refl _)) rfl rfl ?_
      refine GoR.op ((op_move rfl) _) rfl rfl ?_
      obtain ⟨h71, H⟩ := H
      obtain ⟨h72, H⟩ := H
      refine GoR.op ((op_index Try.underlying26 ti3 rfl rfl h71 h72 (Dw.some_ h71 h72)) _) rfl rfl ?_
      refine GoR.op ((ldInt Dw h71 h72 Try.underlying3 rfl rfl) _ (Same.refl _)) rfl rfl ?_
      refine GoR.op ((op_assign rfl) _) rfl rfl ?_
      refine GoR.nil ?_
      refine Go1.ret1V Try.func66 rfl (show _ = .int .i64 (ix (ix r14.Enum.Right i1_56) (IntKind.i64.wrap (IntKind.u8.wrap (((ix w_ (k1_57 : Int)).toNat : Int) - (97 : Int))))) from rfl) ?_
      refine hR61 _ _ ?_
      refine GoR.op ((op_assign rfl) _) rfl rfl ?_
      refine GoR.nil ?_
      refine Go1.inBlock ?_
      refine Go1.region ?_
      refine GoR.op ((op_add rfl rfl (wrap_i64 (natbd h58 nw))) _) rfl rfl ?_
      refine GoR.op ((op_move rfl) _) rfl rfl ?_
      refine GoR.nil ?_
      exact hX1 _ H _ _ ⟨⟨rfl, rfl, rfl, rfl, rfl, trivial⟩, hO, cd, bW, bU, cg, bD, b8, cO, cC, cf, hB⟩
     replace H := ifn h58 H
     refine GoR.op ((fun w => opB (op_lss rfl rfl w) (decide_eq_false h58)) _) rfl rfl ?_
     refine GoR.nil ?_
     refine Go1.seq ?_
     refine Go1.condF rfl rfl ?_
     refine Go1.exit rfl ?_
     refine Go1.seq ?_
     refine Go1.region ?_
     refine GoR.op ((op_move rfl) _) rfl rfl ?_
     refine GoR.op ((op_assign rfl) _) rfl rfl ?_
     refine GoR.nil ?_
     refine Go1.ret1V Try.func59 rfl (show _ = .int .i64 i1_56 from rfl) ?_
     refine hR53 _ _ ?_
     refine GoR.op ((op_assign rfl) _) rfl rfl ?_
     refine GoR.nil ?_
     refine Go1.ret1 Try.func30 rfl ?_
     exact ⟨i1_56, rfl, hB.same, H⟩
    replace H := ifn h52 H
    refine GoR.op (opB ((oblk (i := 1) 0 hO rfl rfl Try.underlying4 rfl rfl) _ (Same.refl _)) (Bool.eq_false_iff.2 h52)) rfl rfl ?_
    refine GoR.op ((op_not rfl) _) rfl rfl ?_
    refine GoR.op ((op_pickT rfl rfl rfl) _) rfl rfl ?_
    refine GoR.op ((op_pickF rfl rfl rfl) _) rfl rfl ?_
    refine GoR.nil ?_
    refine Go1.condT rfl rfl ?_
    refine Go1.seq ?_
    refine Go1.cut [] trivial ?_
    intro σ _
    refine Go1.region ?_
    refine GoR.op ((op_assign rfl) _) rfl rfl ?_
    refine GoR.nil ?_
    refine Go1.ret1 Try.func30 rfl ?_
    exact ⟨(-1 : Int), rfl, hB.same, H⟩
   replace H := ifn h51 H
   refine GoR.op ((fun w => opB (op_eqlS rfl rfl w) (decide_eq_false h51)) _) rfl rfl ?_
   refine GoR.op ((op_move rfl) _) rfl rfl ?_
   refine GoR.pass rfl rfl ?_
   refine GoR.pass rfl rfl ?_
   refine GoR.pass rfl rfl ?_
   refine GoR.pass rfl rfl ?_
   refine GoR.pass rfl rfl ?_
   refine GoR.pass rfl rfl ?_
   refine GoR.op ((op_pickF rfl rfl rfl) _) rfl rfl ?_
   refine GoR.op ((op_pickF rfl rfl rfl) _) rfl rfl ?_
   refine GoR.nil ?_
   refine Go1.condF rfl rfl ?_
   refine Go1.skip ?_
   refine Go1.seq ?_
   refine Go1.region ?_
   refine GoR.op ((op_move rfl) _) rfl rfl ?_
   refine GoR.op ((op_move rfl) _) rfl rfl ?_
   refine GoR.inl (vs := [.pointer (some ⟨dQ, 0, none⟩), .int .i64 (-1 : Int), .string (gstr w_)]) (caps := []) rfl rfl body59 Try.func59 rfl Try.ntmps59 rfl rfl rfl ?_
   intro RhR73 hR73
   refine Go1.seq ?_
   refine Go1.region ?_
   refine GoR.op ((op_assign rfl) _) rfl rfl ?_
   refine GoR.nil ?_
   refine Go1.seq ?_
   refine Go1.seq ?_
   refine Go1.region ?_
   refine GoR.op ((op_move rfl) _) rfl rfl ?_
   by_cases h74 : (-1 : Int) = (-1 : Int)
   ·replace H := ifp h74 H
    refine GoR.op ((fun w => opB (op_eql rfl rfl w) (decide_eq_true h74)) _) rfl rfl ?_
    refine GoR.op ((op_move rfl) _) rfl rfl ?_
    refine GoR.op ((op_move rfl) _) rfl rfl ?_
    refine GoR.op ((fun w => opB (op_eqlS rfl rfl w) (decide_eq_false h51)) _) rfl rfl ?_
    refine GoR.op ((op_pickT rfl rfl rfl) _) rfl rfl ?_
    refine GoR.nil ?_
    refine Go1.condF rfl rfl ?_
    refine Go1.skip ?_
    refine Go1.seq ?_
    refine Go1.seq ?_
    refine Go1.cut [(0, .pointer (some ⟨dQ, 0, none⟩)), (1, .int .i64 (-1 : Int)), (2, .string (gstr w_))] ⟨rfl, rfl, rfl, trivial⟩ ?_
    intro σ _
    refine Go1.region ?_
    refine GoR.op ((op_move rfl) _) rfl rfl ?_
    refine GoR.op ((op_lenS Try.underlying9 rfl) _) rfl rfl ?_
    replace H := H nw
    refine GoR.op ((op_move rfl) _) rfl rfl ?_
    refine GoR.nil ?_
    refine Go1.block ?_
    replace ah := ah.ch (Owns.dropCh _ _ 11)
    replace ae := ae.ch (Owns.dropCh _ _ 11)
    replace ac := ac.ch (Owns.dropCh _ _ 11)
    replace ai := ai.ch (Owns.dropCh _ _ 11)
    replace af := af.ch (Owns.dropCh _ _ 11)
    replace ag := ag.ch (Owns.dropCh _ _ 11)
    replace cd := cd.ch (Owns.dropCh _ _ 11)
    replace bW := bW.ch (Owns.dropCh _ _ 11)
    replace bU := bU.ch (Owns.dropCh _ _ 11)
    replace cg := cg.ch (Owns.dropCh _ _ 11)
    replace bD := bD.ch (Owns.dropCh _ _ 11)
    replace b8 := b8.ch (Owns.dropCh _ _ 11)
    replace cO := cO.ch (Owns.dropCh _ _ 11)
    replace cC := cC.ch (Owns.dropCh _ _ 11)
    replace cf := cf.ch (Owns.dropCh _ _ 11)
    replace hB := hB.trans (Owns.dropFr _ _ 11)
    replace hO := hO.drop 11
    dsimp only [eS, eZ] at hB hO ah ae ac ai af ag cd bW bU cg bD b8 cO cC cf
    replace ah := ah.ch (Owns.dropCh _ _ 11)
    replace ae := ae.ch (Owns.dropCh _ _ 11)
    replace ac := ac.ch (Owns.dropCh _ _ 11)
    replace ai := ai.ch (Owns.dropCh _ _ 11)
    replace af := af.ch (Owns.dropCh _ _ 11)
    replace ag := ag.ch (Owns.dropCh _ _ 11)
    replace cd := cd.ch (Owns.dropCh _ _ 11)
    replace bW := bW.ch (Owns.dropCh _ _ 11)
    replace bU := bU.ch (Owns.dropCh _ _ 11)
    replace cg := cg.ch (Owns.dropCh _ _ 11)
    replace bD := bD.ch (Owns.dropCh _ _ 11)
    replace b8 := b8.ch (Owns.dropCh _ _ 11)
    replace cO := cO.ch (Owns.dropCh _ _ 11)
    replace cC := cC.ch (Owns.dropCh _ _ 11)
    replace cf := cf.ch (Owns.dropCh _ _ 11)
    replace hB := hB.trans (Owns.dropFr _ _ 11)
    replace hO := hO.drop 11
    dsimp only [eS, eZ] at hB hO ah ae ac ai af ag cd bW bU cg bD b8 cO cC cf
    refine Go1.loopW (S := Int × Nat) (fun s σ w => match s with | (i2_76, k2_77) => agrees σ [(0, .pointer (some ⟨dQ, 0, none⟩)), (1, .int .i64 i2_76), (2, .string (gstr w_)), (15, .int .i64 (w_.length : Int)), (16, .int .i64 (k2_77 : Int))] ∧ Owns w0.heap.size w [.blk dQ (.cells #[.int .i64 r14.Enum.Points, .bool r14.Enum.Monoid, .slice aM aL aN, .slice aw av ax, .slice ao am ap, .slice aP aO aQ, .slice az ay aA, .slice aC aB aD, .int .i64 r14.Enum.Done, .map (some bv), .slice bO bN bP, .slice bx bw bz, .slice bB bA bC] 72 (0, 0)), .row 26 1 aM aL aN ck, .row 26 1 aw av ax b9, .row 3 1 ao am ap bV, .row 3 1 aP aO aQ cl, .row 26 1 az ay aA ca, .row 39 2 aC aB aD cb, .row 9 1 bO bN bP cT, .row 3 1 bx bw bz cD, .row 3 1 bB bA bC cE, .any (mapE (fun a : List UInt8 => Value.string (gstr a)) (fun a : Int => Value.int .i64 a) bv r14.number)] A ∧ Els (Rp.sl (Rp.int .i64)) (bl [.blk dQ (.cells #[.int .i64 r14.Enum.Points, .bool r14.Enum.Monoid, .slice aM aL aN, .slice aw av ax, .slice ao am ap, .slice aP aO aQ, .slice az ay aA, .slice aC aB aD, .int .i64 r14.Enum.Done, .map (some bv), .slice bO bN bP, .slice bx bw bz, .slice bB bA bC] 72 (0, 0)), .row 26 1 aM aL aN ck, .row 26 1 aw av ax b9, .row 3 1 ao am ap bV, .row 3 1 aP aO aQ cl, .row 26 1 az ay aA ca, .row 39 2 aC aB aD cb, .row 9 1 bO bN bP cT, .row 3 1 bx bw bz cD, .row 3 1 bB bA bC cE, .any (mapE (fun a : List UInt8 => Value.string (gstr a)) (fun a : Int => Value.int .i64 a) bv r14.number)] ++ A) w ck r14.Enum.Gens ∧ Els (Rp.sl (Rp.int .i64)) (bl [.blk dQ (.cells #[.int .i64 r14.Enum.Points, .bool r14.Enum.Monoid, .slice aM aL aN, .slice aw av ax, .slice ao am ap, .slice aP aO aQ, .slice az ay aA, .slice aC aB aD, .int .i64 r14.Enum.Done, .map (some bv), .slice bO bN bP, .slice bx bw bz, .slice bB bA bC] 72 (0, 0)), .row 26 1 aM aL aN ck, .row 26 1 aw av ax b9, .row 3 1 ao am ap bV, .row 3 1 aP aO aQ cl, .row 26 1 az ay aA ca, .row 39 2 aC aB aD cb, .row 9 1 bO bN bP cT, .row 3 1 bx bw bz cD, .row 3 1 bB bA bC cE, .any (mapE (fun a : List UInt8 => Value.string (gstr a)) (fun a : Int => Value.int .i64 a) bv r14.number)] ++ A) w b9 r14.Enum.Elems ∧ Els (Rp.int .i64) (bl [.blk dQ (.cells #[.int .i64 r14.Enum.Points, .bool r14.Enum.Monoid, .slice aM aL aN, .slice aw av ax, .slice ao am ap, .slice aP aO aQ, .slice az ay aA, .slice aC aB aD, .int .i64 r14.Enum.Done, .map (some bv), .slice bO bN bP, .slice bx bw bz, .slice bB bA bC] 72 (0, 0)), .row 26 1 aM aL aN ck, .row 26 1 aw av ax b9, .row 3 1 ao am ap bV, .row 3 1 aP aO aQ cl, .row 26 1 az ay aA ca, .row 39 2 aC aB aD cb, .row 9 1 bO bN bP cT, .row 3 1 bx bw bz cD, .row 3 1 bB bA bC cE, .any (mapE (fun a : List UInt8 => Value.string (gstr a)) (fun a : Int => Value.int .i64 a) bv r14.number)] ++ A) w bV r14.Enum.Prefix ∧ Els (Rp.int .i64) (bl [.blk dQ (.cells #[.int .i64 r14.Enum.Points, .bool r14.Enum.Monoid, .slice aM aL aN, .slice aw av ax, .slice ao am ap, .slice aP aO aQ, .slice az ay aA, .slice aC aB aD, .int .i64 r14.Enum.Done, .map (some bv), .slice bO bN bP, .slice bx bw bz, .slice bB bA bC] 72 (0, 0)), .row 26 1 aM aL aN ck, .row 26 1 aw av ax b9, .row 3 1 ao am ap bV, .row 3 1 aP aO aQ cl, .row 26 1 az ay aA ca, .row 39 2 aC aB aD cb, .row 9 1 bO bN bP cT, .row 3 1 bx bw bz cD, .row 3 1 bB bA bC cE, .any (mapE (fun a : List UInt8 => Value.string (gstr a)) (fun a : Int => Value.int .i64 a) bv r14.number)] ++ A) w cl r14.Enum.Last ∧ Els (Rp.sl (Rp.int .i64)) (bl [.blk dQ (.cells #[.int .i64 r14.Enum.Points, .bool r14.Enum.Monoid, .slice aM aL aN, .slice aw av ax, .slice ao am ap, .slice aP aO aQ, .slice az ay aA, .slice aC aB aD, .int .i64 r14.Enum.Done, .map (some bv), .slice bO bN bP, .slice bx bw bz, .slice bB bA bC] 72 (0, 0)), .row 26 1 aM aL aN ck, .row 26 1 aw av ax b9, .row 3 1 ao am ap bV, .row 3 1 aP aO aQ cl, .row 26 1 az ay aA ca, .row 39 2 aC aB aD cb, .row 9 1 bO bN bP cT, .row 3 1 bx bw bz cD, .row 3 1 bB bA bC cE, .any (mapE (fun a : List UInt8 => Value.string (gstr a)) (fun a : Int => Value.int .i64 a) bv r14.number)] ++ A) w ca r14.Enum.Right ∧ Els (rpRule) (bl [.blk dQ (.cells #[.int .i64 r14.Enum.Points, .bool r14.Enum.Monoid, .slice aM aL aN, .slice aw av ax, .slice ao am ap, .slice aP aO aQ, .slice az ay aA, .slice aC aB aD, .int .i64 r14.Enum.Done, .map (some bv), .slice bO bN bP, .slice bx bw bz, .slice bB bA bC] 72 (0, 0)), .row 26 1 aM aL aN ck, .row 26 1 aw av ax b9, .row 3 1 ao am ap bV, .row 3 1 aP aO aQ cl, .row 26 1 az ay aA ca, .row 39 2 aC aB aD cb, .row 9 1 bO bN bP cT, .row 3 1 bx bw bz cD, .row 3 1 bB bA bC cE, .any (mapE (fun a : List UInt8 => Value.string (gstr a)) (fun a : Int => Value.int .i64 a) bv r14.number)] ++ A) w cb r14.Enum.Rules ∧ Els (Rp.str) (bl [.blk dQ (.cells #[.int .i64 r14.Enum.Points, .bool r14.Enum.Monoid, .slice aM aL aN, .slice aw av ax, .slice ao am ap, .slice aP aO aQ, .slice az ay aA, .slice aC aB aD, .int .i64 r14.Enum.Done, .map (some bv), .slice bO bN bP, .slice bx bw bz, .slice bB bA bC] 72 (0, 0)), .row 26 1 aM aL aN ck, .row 26 1 aw av ax b9, .row 3 1 ao am ap bV, .row 3 1 aP aO aQ cl, .row 26 1 az ay aA ca, .row 39 2 aC aB aD cb, .row 9 1 bO bN bP cT, .row 3 1 bx bw bz cD, .row 3 1 bB bA bC cE, .any (mapE (fun a : List UInt8 => Value.string (gstr a)) (fun a : Int => Value.int .i64 a) bv r14.number)] ++ A) w cT r14.words ∧ Els (Rp.int .i64) (bl [.blk dQ (.cells #[.int .i64 r14.Enum.Points, .bool r14.Enum.Monoid, .slice aM aL aN, .slice aw av ax, .slice ao am ap, .slice aP aO aQ, .slice az ay aA, .slice aC aB aD, .int .i64 r14.Enum.Done, .map (some bv), .slice bO bN bP, .slice bx bw bz, .slice bB bA bC] 72 (0, 0)), .row 26 1 aM aL aN ck, .row 26 1 aw av ax b9, .row 3 1 ao am ap bV, .row 3 1 aP aO aQ cl, .row 26 1 az ay aA ca, .row 39 2 aC aB aD cb, .row 9 1 bO bN bP cT, .row 3 1 bx bw bz cD, .row 3 1 bB bA bC cE, .any (mapE (fun a : List UInt8 => Value.string (gstr a)) (fun a : Int => Value.int .i64 a) bv r14.number)] ++ A) w cD r14.behind ∧ Els (Rp.int .i64) (bl [.blk dQ (.cells #[.int .i64 r14.Enum.Points, .bool r14.Enum.Monoid, .slice aM aL aN, .slice aw av ax, .slice ao am ap, .slice aP aO aQ, .slice az ay aA, .slice aC aB aD, .int .i64 r14.Enum.Done, .map (some bv), .slice bO bN bP, .slice bx bw bz, .slice bB bA bC] 72 (0, 0)), .row 26 1 aM aL aN ck, .row 26 1 aw av ax b9, .row 3 1 ao am ap bV, .row 3 1 aP aO aQ cl, .row 26 1 az ay aA ca, .row 39 2 aC aB aD cb, .row 9 1 bO bN bP cT, .row 3 1 bx bw bz cD, .row 3 1 bB bA bC cE, .any (mapE (fun a : List UInt8 => Value.string (gstr a)) (fun a : Int => Value.int .i64 a) bv r14.number)] ++ A) w cE r14.single ∧ Fr (bl []) w0 (bl [.blk dQ (.cells #[.int .i64 r14.Enum.Points, .bool r14.Enum.Monoid, .slice aM aL aN, .slice aw av ax, .slice ao am ap, .slice aP aO aQ, .slice az ay aA, .slice aC aB aD, .int .i64 r14.Enum.Done, .map (some bv), .slice bO bN bP, .slice bx bw bz, .slice bB bA bC] 72 (0, 0)), .row 26 1 aM aL aN ck, .row 26 1 aw av ax b9, .row 3 1 ao am ap bV, .row 3 1 aP aO aQ cl, .row 26 1 az ay aA ca, .row 39 2 aC aB aD cb, .row 9 1 bO bN bP cT, .row 3 1 bx bw bz cD, .row 3 1 bB bA bC cE, .any (mapE (fun a : List UInt8 => Value.string (gstr a)) (fun a : Int => Value.int .i64 a) bv r14.number)]) w) H ⟨⟨rfl, rfl, rfl, rfl, rfl, trivial⟩, hO, cd, bW, bU, cg, bD, b8, cO, cC, cf, hB⟩ ?_
    intro X2
    refine prE fun i2_76 => fun k2_77 => ?_
    intro H hX2 σ w75
    refine andE fun hag => andE fun hO => andE fun cd => andE fun bW => andE fun bU => andE fun cg => andE fun bD => andE fun b8 => andE fun cO => andE fun cC => andE fun cf => fun hB => ?_
    dsimp only at H
    refine Go1.keep [(0, .pointer (some ⟨dQ, 0, none⟩)), (1, .int .i64 i2_76), (2, .string (gstr w_)), (15, .int .i64 (w_.length : Int)), (16, .int .i64 (k2_77 : Int))] hag ?_
    refine Go1.seq ?_
    refine Go1.region ?_
    by_cases h78 : (k2_77 : Int) < (w_.length : Int)
    ·replace H := ifp h78 H
     refine GoR.op ((fun w => opB (op_lss rfl rfl w) (decide_eq_true h78)) _) rfl rfl ?_
     refine GoR.nil ?_
     refine Go1.seq ?_
     refine Go1.condT rfl rfl ?_
     refine Go1.skip ?_
     refine Go1.seq ?_
     refine Go1.block ?_
     refine Go1.seq ?_
     refine Go1.region ?_
     refine GoR.op ((op_move rfl) _) rfl rfl ?_
     refine GoR.op ((op_assign rfl) _) rfl rfl ?_
     refine GoR.nil ?_
     refine Go1.region ?_
     refine GoR.op ((op_move rfl) _) rfl rfl ?_
     refine GoR.op ((op_move rfl) _) rfl rfl ?_
     refine GoR.op ((op_move rfl) _) rfl rfl ?_
     refine GoR.op ((op_move rfl) _) rfl rfl ?_
     obtain ⟨h79, H⟩ := H
     obtain ⟨h80, H⟩ := H
     refine GoR.op ((op_indexS Try.underlying9 rfl rfl h79 h80) _) rfl rfl ?_
     refine GoR.op ((op_sub rfl rfl rfl) _) rfl rfl ?_
     refine GoR.op ((op_conv Try.underlying5 Try.underlying3 rfl rfl) _) rfl rfl ?_
     refine GoR.inl (vs := [.pointer (some ⟨dQ, 0, none⟩), .int .i64 i2_76, .int .i64 (IntKind.i64.wrap (IntKind.u8.wrap (((ix w_ (k2_77 : Int)).toNat : Int) - (97 : Int))))]) (caps := []) rfl rfl body66 Try.func66 rfl Try.ntmps66 rfl rfl rfl ?_
     intro RhR81 hR81
     refine Go1.seq ?_
     refine Go1.region ?_
     refine GoR.op ((op_assign rfl) _) rfl rfl ?_
     refine GoR.nil ?_
     refine Go1.seq ?_
     refine Go1.seq ?_
     refine Go1.region ?_
     refine GoR.op ((op_move rfl) _) rfl rfl ?_
     by_cases h82 : i2_76 = (-1 : Int)
     ·replace H := ifp h82 H
      refine GoR.op ((fun w => opB (op_eql rfl rfl w) (decide_eq_true h82)) _) rfl rfl ?_
      refine GoR.nil ?_
      refine Go1.condT rfl rfl ?_
      refine Go1.seq ?_
      refine Go1.region ?_
      refine GoR.op ((op_move rfl) _) rfl rfl ?_
      refine GoR.op ((op_nilCheck rfl) _) rfl rfl ?_
      refine GoR.op ((op_fieldAddr Try.underlying72 rfl ti26 rfl (by decide)) _) rfl rfl ?_
      refine GoR.op ((oblk (i := 12) 0 hO rfl rfl Try.underlying26 rfl rfl) _ (Same.refl _)) rfl rfl ?_
      refine GoR.op ((op_move rfl) _) rfl rfl ?_
      obtain ⟨h83, H⟩ := H
      obtain ⟨h84, H⟩ := H
      refine GoR.op ((op_index Try.underlying26 ti3 rfl rfl h83 (ltn (cf.neq hO 9 rfl) h84) (cf.psome hO 9 rfl h83 h84)) _) rfl rfl ?_
      refine GoR.op ((oldInt 9 hO rfl cf h83 h84 Try.underlying3 rfl rfl) _ (Same.refl _)) rfl rfl ?_
      refine GoR.op ((op_assign rfl) _) rfl rfl ?_
      refine GoR.nil ?_
      refine Go1.ret1V Try.func66 rfl (show _ = .int .i64 (ix r14.single (IntKind.i64.wrap (IntKind.u8.wrap (((ix w_ (k2_77 : Int)).toNat : Int) - (97 : Int))))) from rfl) ?_
      refine hR81 _ _ ?_
      refine GoR.op ((op_assign rfl) _) rfl rfl ?_
      refine GoR.nil ?_
      refine Go1.inBlock ?_
      refine Go1.cut [(0, .pointer (some ⟨dQ, 0, none⟩)), (1, .int .i64 (ix r14.single (IntKind.i64.wrap (IntKind.u8.wrap (((ix w_ (k2_77 : Int)).toNat : Int) - (97 : Int)))))), (2, .string (gstr w_)), (15, .int .i64 (w_.length : Int)), (16, .int .i64 (k2_77 : Int))] ⟨rfl, rfl, rfl, rfl, rfl, trivial⟩ ?_
      intro σ _
      refine Go1.region ?_
      refine GoR.op ((op_add rfl rfl (wrap_i64 (natbd h78 nw))) _) rfl rfl ?_
      refine GoR.op ((op_move rfl) _) rfl rfl ?_
      refine GoR.nil ?_
      exact hX2 _ H _ _ ⟨⟨rfl, rfl, rfl, rfl, rfl, trivial⟩, hO, cd, bW, bU, cg, bD, b8, cO, cC, cf, hB⟩
     replace H := ifn h82 H
     refine GoR.op ((fun w => opB (op_eql rfl rfl w) (decide_eq_false h82)) _) rfl rfl ?_
     refine GoR.nil ?_
     refine Go1.condF rfl rfl ?_
     refine Go1.skip ?_
     refine Go1.seq ?_
     refine Go1.region ?_
     refine GoR.op ((op_move rfl) _) rfl rfl ?_
     refine GoR.op ((op_nilCheck rfl) _) rfl rfl ?_
     refine GoR.op ((op_fieldAddr Try.underlying72 rfl ti29 rfl (by decide)) _) rfl rfl ?_
     refine GoR.op ((op_fieldAddr Try.underlying29 rfl ti22 rfl (by decide)) _) rfl rfl ?_
     refine GoR.op ((oblk (i := 6) 0 hO rfl rfl Try.underlying22 rfl rfl) _ (Same.refl _)) rfl rfl ?_
     refine GoR.op ((op_move rfl) _) rfl rfl ?_
     obtain ⟨h85, H⟩ := H
     obtain ⟨h86, H⟩ := H
     refine GoR.op ((op_index Try.underlying22 ti26 rfl rfl h85 (ltn (bD.neq hO 5 rfl) h86) (bD.psome hO 5 rfl h85 h86)) _) rfl rfl ?_
     have hobt := oldSl 5 hO rfl bD h85 h86
     obtain ⟨p87, c88, Dx, IX⟩ := hobt
     refine GoR.op ((IX Try.underlying26 rfl rfl) _ (Same.refl _)) rfl rfl ?_
     refine GoR.op ((op_move rfl) _) rfl rfl ?_
     obtain ⟨h91, H⟩ := H
     obtain ⟨h92, H⟩ := H
     refine GoR.op ((op_index Try.underlying26 ti3 rfl rfl h91 h92 (Dx.some_ h91 h92)) _) rfl rfl ?_
     refine GoR.op ((ldInt Dx h91 h92 Try.underlying3 rfl rfl) _ (Same.refl _)) rfl rfl ?_
     refine GoR.op ((op_assign rfl) _) rfl rfl ?_
     refine GoR.nil ?_
     refine Go1.ret1V Try.func66 rfl (show _ = .int .i64 (ix (ix r14.Enum.Right i2_76) (IntKind.i64.wrap (IntKind.u8.wrap (((ix w_ (k2_77 : Int)).toNat : Int) - (97 : Int))))) from rfl) ?_
     refine hR81 _ _ ?_
     refine GoR.op ((op_assign rfl) _) rfl rfl ?_
     refine GoR.nil ?_
     refine Go1.inBlock ?_
     refine Go1.region ?_
     refine GoR.op ((op_add rfl rfl (wrap_i64 (natbd h78 nw))) _) rfl rfl ?_
     refine GoR.op ((op_move rfl) _) rfl rfl ?_
     refine GoR.nil ?_
     exact hX2 _ H _ _ ⟨⟨rfl, rfl, rfl, rfl, rfl, trivial⟩, hO, cd, bW, bU, cg, bD, b8, cO, cC, cf, hB⟩
    replace H := ifn h78 H
    refine GoR.op ((fun w => opB (op_lss rfl rfl w) (decide_eq_false h78)) _) rfl rfl ?_
    refine GoR.nil ?_
    refine Go1.seq ?_
    refine Go1.condF rfl rfl ?_
    refine Go1.exit rfl ?_
    refine Go1.seq ?_
    refine Go1.region ?_
    refine GoR.op ((op_move rfl) _) rfl rfl ?_
    refine GoR.op ((op_assign rfl) _) rfl rfl ?_
    refine GoR.nil ?_
    refine Go1.ret1V Try.func59 rfl (show _ = .int .i64 i2_76 from rfl) ?_
    refine hR73 _ _ ?_
    refine GoR.op ((op_assign rfl) _) rfl rfl ?_
    refine GoR.nil ?_
    refine Go1.ret1 Try.func30 rfl ?_
    exact ⟨i2_76, rfl, hB.same, H⟩
   replace H := ifn h74 H
   refine GoR.op ((fun w => opB (op_eql rfl rfl w) (decide_eq_false h74)) _) rfl rfl ?_
   refine GoR.op ((op_move rfl) _) rfl rfl ?_
   refine GoR.pass rfl rfl ?_
   refine GoR.pass rfl rfl ?_
   refine GoR.op ((op_pickF rfl rfl rfl) _) rfl rfl ?_
   refine GoR.nil ?_
   refine Go1.condF rfl rfl ?_
   refine Go1.skip ?_
   refine Go1.seq ?_
   refine Go1.seq ?_
   refine Go1.cut [(0, .pointer (some ⟨dQ, 0, none⟩)), (1, .int .i64 (-1 : Int)), (2, .string (gstr w_))] ⟨rfl, rfl, rfl, trivial⟩ ?_
   intro σ _
   refine Go1.region ?_
   refine GoR.op ((op_move rfl) _) rfl rfl ?_
   refine GoR.op ((op_lenS Try.underlying9 rfl) _) rfl rfl ?_
   replace H := H nw
   refine GoR.op ((op_move rfl) _) rfl rfl ?_
   refine GoR.nil ?_
   refine Go1.block ?_
   replace ah := ah.ch (Owns.dropCh _ _ 11)
   replace ae := ae.ch (Owns.dropCh _ _ 11)
   replace ac := ac.ch (Owns.dropCh _ _ 11)
   replace ai := ai.ch (Owns.dropCh _ _ 11)
   replace af := af.ch (Owns.dropCh _ _ 11)
   replace ag := ag.ch (Owns.dropCh _ _ 11)
   replace cd := cd.ch (Owns.dropCh _ _ 11)
   replace bW := bW.ch (Owns.dropCh _ _ 11)
   replace bU := bU.ch (Owns.dropCh _ _ 11)
   replace cg := cg.ch (Owns.dropCh _ _ 11)
   replace bD := bD.ch (Owns.dropCh _ _ 11)
   replace b8 := b8.ch (Owns.dropCh _ _ 11)
   replace cO := cO.ch (Owns.dropCh _ _ 11)
   replace cC := cC.ch (Owns.dropCh _ _ 11)
   replace cf := cf.ch (Owns.dropCh _ _ 11)
   replace hB := hB.trans (Owns.dropFr _ _ 11)
   replace hO := hO.drop 11
   dsimp only [eS, eZ] at hB hO ah ae ac ai af ag cd bW bU cg bD b8 cO cC cf
   replace ah := ah.ch (Owns.dropCh _ _ 11)
   replace ae := ae.ch (Owns.dropCh _ _ 11)
   replace ac := ac.ch (Owns.dropCh _ _ 11)
   replace ai := ai.ch (Owns.dropCh _ _ 11)
   replace af := af.ch (Owns.dropCh _ _ 11)
   replace ag := ag.ch (Owns.dropCh _ _ 11)
   replace cd := cd.ch (Owns.dropCh _ _ 11)
   replace bW := bW.ch (Owns.dropCh _ _ 11)
   replace bU := bU.ch (Owns.dropCh _ _ 11)
   replace cg := cg.ch (Owns.dropCh _ _ 11)
   replace bD := bD.ch (Owns.dropCh _ _ 11)
   replace b8 := b8.ch (Owns.dropCh _ _ 11)
   replace cO := cO.ch (Owns.dropCh _ _ 11)
   replace cC := cC.ch (Owns.dropCh _ _ 11)
   replace cf := cf.ch (Owns.dropCh _ _ 11)
   replace hB := hB.trans (Owns.dropFr _ _ 11)
   replace hO := hO.drop 11
   dsimp only [eS, eZ] at hB hO ah ae ac ai af ag cd bW bU cg bD b8 cO cC cf
   refine Go1.loopW (S := Int × Nat) (fun s σ w => match s with | (i3_94, k3_95) => agrees σ [(0, .pointer (some ⟨dQ, 0, none⟩)), (1, .int .i64 i3_94), (2, .string (gstr w_)), (15, .int .i64 (w_.length : Int)), (16, .int .i64 (k3_95 : Int))] ∧ Owns w0.heap.size w [.blk dQ (.cells #[.int .i64 r14.Enum.Points, .bool r14.Enum.Monoid, .slice aM aL aN, .slice aw av ax, .slice ao am ap, .slice aP aO aQ, .slice az ay aA, .slice aC aB aD, .int .i64 r14.Enum.Done, .map (some bv), .slice bO bN bP, .slice bx bw bz, .slice bB bA bC] 72 (0, 0)), .row 26 1 aM aL aN ck, .row 26 1 aw av ax b9, .row 3 1 ao am ap bV, .row 3 1 aP aO aQ cl, .row 26 1 az ay aA ca, .row 39 2 aC aB aD cb, .row 9 1 bO bN bP cT, .row 3 1 bx bw bz cD, .row 3 1 bB bA bC cE, .any (mapE (fun a : List UInt8 => Value.string (gstr a)) (fun a : Int => Value.int .i64 a) bv r14.number)] A ∧ Els (Rp.sl (Rp.int .i64)) (bl [.blk dQ (.cells #[.int .i64 r14.Enum.Points, .bool r14.Enum.Monoid, .slice aM aL aN, .slice aw av ax, .slice ao am ap, .slice aP aO aQ, .slice az ay aA, .slice aC aB aD, .int .i64 r14.Enum.Done, .map (some bv), .slice bO bN bP, .slice bx bw bz, .slice bB bA bC] 72 (0, 0)), .row 26 1 aM aL aN ck, .row 26 1 aw av ax b9, .row 3 1 ao am ap bV, .row 3 1 aP aO aQ cl, .row 26 1 az ay aA ca, .row 39 2 aC aB aD cb, .row 9 1 bO bN bP cT, .row 3 1 bx bw bz cD, .row 3 1 bB bA bC cE, .any (mapE (fun a : List UInt8 => Value.string (gstr a)) (fun a : Int => Value.int .i64 a) bv r14.number)] ++ A) w ck r14.Enum.Gens ∧ Els (Rp.sl (Rp.int .i64)) (bl [.blk dQ (.cells #[.int .i64 r14.Enum.Points, .bool r14.Enum.Monoid, .slice aM aL aN, .slice aw av ax, .slice ao am ap, .slice aP aO aQ, .slice az ay aA, .slice aC aB aD, .int .i64 r14.Enum.Done, .map (some bv), .slice bO bN bP, .slice bx bw bz, .slice bB bA bC] 72 (0, 0)), .row 26 1 aM aL aN ck, .row 26 1 aw av ax b9, .row 3 1 ao am ap bV, .row 3 1 aP aO aQ cl, .row 26 1 az ay aA ca, .row 39 2 aC aB aD cb, .row 9 1 bO bN bP cT, .row 3 1 bx bw bz cD, .row 3 1 bB bA bC cE, .any (mapE (fun a : List UInt8 => Value.string (gstr a)) (fun a : Int => Value.int .i64 a) bv r14.number)] ++ A) w b9 r14.Enum.Elems ∧ Els (Rp.int .i64) (bl [.blk dQ (.cells #[.int .i64 r14.Enum.Points, .bool r14.Enum.Monoid, .slice aM aL aN, .slice aw av ax, .slice ao am ap, .slice aP aO aQ, .slice az ay aA, .slice aC aB aD, .int .i64 r14.Enum.Done, .map (some bv), .slice bO bN bP, .slice bx bw bz, .slice bB bA bC] 72 (0, 0)), .row 26 1 aM aL aN ck, .row 26 1 aw av ax b9, .row 3 1 ao am ap bV, .row 3 1 aP aO aQ cl, .row 26 1 az ay aA ca, .row 39 2 aC aB aD cb, .row 9 1 bO bN bP cT, .row 3 1 bx bw bz cD, .row 3 1 bB bA bC cE, .any (mapE (fun a : List UInt8 => Value.string (gstr a)) (fun a : Int => Value.int .i64 a) bv r14.number)] ++ A) w bV r14.Enum.Prefix ∧ Els (Rp.int .i64) (bl [.blk dQ (.cells #[.int .i64 r14.Enum.Points, .bool r14.Enum.Monoid, .slice aM aL aN, .slice aw av ax, .slice ao am ap, .slice aP aO aQ, .slice az ay aA, .slice aC aB aD, .int .i64 r14.Enum.Done, .map (some bv), .slice bO bN bP, .slice bx bw bz, .slice bB bA bC] 72 (0, 0)), .row 26 1 aM aL aN ck, .row 26 1 aw av ax b9, .row 3 1 ao am ap bV, .row 3 1 aP aO aQ cl, .row 26 1 az ay aA ca, .row 39 2 aC aB aD cb, .row 9 1 bO bN bP cT, .row 3 1 bx bw bz cD, .row 3 1 bB bA bC cE, .any (mapE (fun a : List UInt8 => Value.string (gstr a)) (fun a : Int => Value.int .i64 a) bv r14.number)] ++ A) w cl r14.Enum.Last ∧ Els (Rp.sl (Rp.int .i64)) (bl [.blk dQ (.cells #[.int .i64 r14.Enum.Points, .bool r14.Enum.Monoid, .slice aM aL aN, .slice aw av ax, .slice ao am ap, .slice aP aO aQ, .slice az ay aA, .slice aC aB aD, .int .i64 r14.Enum.Done, .map (some bv), .slice bO bN bP, .slice bx bw bz, .slice bB bA bC] 72 (0, 0)), .row 26 1 aM aL aN ck, .row 26 1 aw av ax b9, .row 3 1 ao am ap bV, .row 3 1 aP aO aQ cl, .row 26 1 az ay aA ca, .row 39 2 aC aB aD cb, .row 9 1 bO bN bP cT, .row 3 1 bx bw bz cD, .row 3 1 bB bA bC cE, .any (mapE (fun a : List UInt8 => Value.string (gstr a)) (fun a : Int => Value.int .i64 a) bv r14.number)] ++ A) w ca r14.Enum.Right ∧ Els (rpRule) (bl [.blk dQ (.cells #[.int .i64 r14.Enum.Points, .bool r14.Enum.Monoid, .slice aM aL aN, .slice aw av ax, .slice ao am ap, .slice aP aO aQ, .slice az ay aA, .slice aC aB aD, .int .i64 r14.Enum.Done, .map (some bv), .slice bO bN bP, .slice bx bw bz, .slice bB bA bC] 72 (0, 0)), .row 26 1 aM aL aN ck, .row 26 1 aw av ax b9, .row 3 1 ao am ap bV, .row 3 1 aP aO aQ cl, .row 26 1 az ay aA ca, .row 39 2 aC aB aD cb, .row 9 1 bO bN bP cT, .row 3 1 bx bw bz cD, .row 3 1 bB bA bC cE, .any (mapE (fun a : List UInt8 => Value.string (gstr a)) (fun a : Int => Value.int .i64 a) bv r14.number)] ++ A) w cb r14.Enum.Rules ∧ Els (Rp.str) (bl [.blk dQ (.cells #[.int .i64 r14.Enum.Points, .bool r14.Enum.Monoid, .slice aM aL aN, .slice aw av ax, .slice ao am ap, .slice aP aO aQ, .slice az ay aA, .slice aC aB aD, .int .i64 r14.Enum.Done, .map (some bv), .slice bO bN bP, .slice bx bw bz, .slice bB bA bC] 72 (0, 0)), .row 26 1 aM aL aN ck, .row 26 1 aw av ax b9, .row 3 1 ao am ap bV, .row 3 1 aP aO aQ cl, .row 26 1 az ay aA ca, .row 39 2 aC aB aD cb, .row 9 1 bO bN bP cT, .row 3 1 bx bw bz cD, .row 3 1 bB bA bC cE, .any (mapE (fun a : List UInt8 => Value.string (gstr a)) (fun a : Int => Value.int .i64 a) bv r14.number)] ++ A) w cT r14.words ∧ Els (Rp.int .i64) (bl [.blk dQ (.cells #[.int .i64 r14.Enum.Points, .bool r14.Enum.Monoid, .slice aM aL aN, .slice aw av ax, .slice ao am ap, .slice aP aO aQ, .slice az ay aA, .slice aC aB aD, .int .i64 r14.Enum.Done, .map (some bv), .slice bO bN bP, .slice bx bw bz, .slice bB bA bC] 72 (0, 0)), .row 26 1 aM aL aN ck, .row 26 1 aw av ax b9, .row 3 1 ao am ap bV, .row 3 1 aP aO aQ cl, .row 26 1 az ay aA ca, .row 39 2 aC aB aD cb, .row 9 1 bO bN bP cT, .row 3 1 bx bw bz cD, .row 3 1 bB bA bC cE, .any (mapE (fun a : List UInt8 => Value.string (gstr a)) (fun a : Int => Value.int .i64 a) bv r14.number)] ++ A) w cD r14.behind ∧ Els (Rp.int .i64) (bl [.blk dQ (.cells #[.int .i64 r14.Enum.Points, .bool r14.Enum.Monoid, .slice aM aL aN, .slice aw av ax, .slice ao am ap, .slice aP aO aQ, .slice az ay aA, .slice aC aB aD, .int .i64 r14.Enum.Done, .map (some bv), .slice bO bN bP, .slice bx bw bz, .slice bB bA bC] 72 (0, 0)), .row 26 1 aM aL aN ck, .row 26 1 aw av ax b9, .row 3 1 ao am ap bV, .row 3 1 aP aO aQ cl, .row 26 1 az ay aA ca, .row 39 2 aC aB aD cb, .row 9 1 bO bN bP cT, .row 3 1 bx bw bz cD, .row 3 1 bB bA bC cE, .any (mapE (fun a : List UInt8 => Value.string (gstr a)) (fun a : Int => Value.int .i64 a) bv r14.number)] ++ A) w cE r14.single ∧ Fr (bl []) w0 (bl [.blk dQ (.cells #[.int .i64 r14.Enum.Points, .bool r14.Enum.Monoid, .slice aM aL aN, .slice aw av ax, .slice ao am ap, .slice aP aO aQ, .slice az ay aA, .slice aC aB aD, .int .i64 r14.Enum.Done, .map (some bv), .slice bO bN bP, .slice bx bw bz, .slice bB bA bC] 72 (0, 0)), .row 26 1 aM aL aN ck, .row 26 1 aw av ax b9, .row 3 1 ao am ap bV, .row 3 1 aP aO aQ cl, .row 26 1 az ay aA ca, .row 39 2 aC aB aD cb, .row 9 1 bO bN bP cT, .row 3 1 bx bw bz cD, .row 3 1 bB bA bC cE, .any (mapE (fun a : List UInt8 => Value.string (gstr a)) (fun a : Int => Value.int .i64 a) bv r14.number)]) w) H ⟨⟨rfl, rfl, rfl, rfl, rfl, trivial⟩, hO, cd, bW, bU, cg, bD, b8, cO, cC, cf, hB⟩ ?_
   intro X3
   refine prE fun i3_94 => fun k3_95 => ?_
   intro H hX3 σ w93
   refine andE fun hag => andE fun hO => andE fun cd => andE fun bW => andE fun bU => andE fun cg => andE fun bD => andE fun b8 => andE fun cO => andE fun cC => andE fun cf => fun hB => ?_
   dsimp only at H
   refine Go1.keep [(0, .pointer (some ⟨dQ, 0, none⟩)), (1, .int .i64 i3_94), (2, .string (gstr w_)), (15, .int .i64 (w_.length : Int)), (16, .int .i64 (k3_95 : Int))] hag ?_
   refine Go1.seq ?_
   refine Go1.region ?_
   by_cases h96 : (k3_95 : Int) < (w_.length : Int)
   ·replace H := ifp h96 H
    refine GoR.op ((fun w => opB (op_lss rfl rfl w) (decide_eq_true h96)) _) rfl rfl ?_
    refine GoR.nil ?_
    refine Go1.seq ?_
    refine Go1.condT rfl rfl ?_
    refine Go1.skip ?_
    refine Go1.seq ?_
    refine Go1.block ?_
    refine Go1.seq ?_
    refine Go1.region ?_
    refine GoR.op ((op_move rfl) _) rfl rfl ?_
    refine GoR.op ((op_assign rfl) _) rfl rfl ?_
    refine GoR.nil ?_
    refine Go1.region ?_
    refine GoR.op ((op_move rfl) _) rfl rfl ?_
    refine GoR.op ((op_move rfl) _) rfl rfl ?_
    refine GoR.op ((op_move rfl) _) rfl rfl ?_
    refine GoR.op ((op_move rfl) _) rfl rfl ?_
    obtain ⟨h97, H⟩ := H
    obtain ⟨h98, H⟩ := H
    refine GoR.op ((op_indexS Try.underlying9 rfl rfl h97 h98) _) rfl rfl ?_
    refine GoR.op ((op_sub rfl rfl rfl) _) rfl rfl ?_
    refine GoR.op ((op_conv Try.underlying5 Try.underlying3 rfl rfl) _) rfl rfl ?_
    refine GoR.inl (vs := [.pointer (some ⟨dQ, 0, none⟩), .int .i64 i3_94, .int .i64 (IntKind.i64.wrap (IntKind.u8.wrap (((ix w_ (k3_95 : Int)).toNat : Int) - (97 : Int))))]) (caps := []) rfl rfl body66 Try.func66 rfl Try.ntmps66 rfl rfl rfl ?_
    intro RhR99 hR99
    refine Go1.seq ?_
    refine Go1.region ?_
    refine GoR.op ((op_assign rfl) _) rfl rfl ?_
    refine GoR.nil ?_
    refine Go1.seq ?_
    refine Go1.seq ?_
    refine Go1.region ?_
    refine GoR.op ((op_move rfl) _) rfl rfl ?_
    by_cases u6 : i3_94 = (-1 : Int)
    ·replace H := ifp u6 H
     refine GoR.op ((fun w => opB (op_eql rfl rfl w) (decide_eq_true u6)) _) rfl rfl ?_
     refine GoR.nil ?_
     refine Go1.condT rfl rfl ?_
     refine Go1.seq ?_
     refine Go1.region ?_
     refine GoR.op ((op_move rfl) _) rfl rfl ?_
     refine GoR.op ((op_nilCheck rfl) _) rfl rfl ?_
     refine GoR.op ((op_fieldAddr Try.underlying72 rfl ti26 rfl (by decide)) _) rfl rfl ?_
     refine GoR.op ((oblk (i := 12) 0 hO rfl rfl Try.underlying26 rfl rfl) _ (Same.refl _)) rfl rfl ?_
     refine GoR.op ((op_move rfl) _) rfl rfl ?_
     obtain ⟨tG, H⟩ := H
     obtain ⟨vc, H⟩ := H
     refine GoR.op ((op_index Try.underlying26 ti3 rfl rfl tG (ltn (cf.neq hO 9 rfl) vc) (cf.psome hO 9 rfl tG vc)) _) rfl rfl ?_
     refine GoR.op ((oldInt 9 hO rfl cf tG vc Try.underlying3 rfl rfl) _ (Same.refl _)) rfl rfl ?_
     refine GoR.op ((op_assign rfl) _) rfl rfl ?_
     refine GoR.nil ?_
     refine Go1.ret1V Try.func66 rfl (show _ = .int .i64 (ix r14.single (IntKind.i64.wrap (IntKind.u8.wrap (((ix w_ (k3_95 : Int)).toNat : Int) - (97 : Int))))) from rfl) ?_
     refine hR99 _ _ ?_
     refine GoR.op ((op_assign rfl) _) rfl rfl ?_
     refine GoR.nil ?_
     refine Go1.inBlock ?_
     refine Go1.cut [(0, .pointer (some ⟨dQ, 0, none⟩)), (1, .int .i64 (ix r14.single (IntKind.i64.wrap (IntKind.u8.wrap (((ix w_ (k3_95 : Int)).toNat : Int) - (97 : Int)))))), (2, .string (gstr w_)), (15, .int .i64 (w_.length : Int)), (16, .int .i64 (k3_95 : Int))] ⟨rfl, rfl, rfl, rfl, rfl, trivial⟩ ?_
     intro σ _
     refine Go1.region ?_
     refine GoR.op ((op_add rfl rfl (wrap_i64 (natbd h96 nw))) _) rfl rfl ?_
     refine GoR.op ((op_move rfl) _) rfl rfl ?_
     refine GoR.nil ?_
     exact hX3 _ H _ _ ⟨⟨rfl, rfl, rfl, rfl, rfl, trivial⟩, hO, cd, bW, bU, cg, bD, b8, cO, cC, cf, hB⟩
    replace H := ifn u6 H
    refine GoR.op ((fun w => opB (op_eql rfl rfl w) (decide_eq_false u6)) _) rfl rfl ?_
    refine GoR.nil ?_
    refine Go1.condF rfl rfl ?_
    refine Go1.skip ?_
    refine Go1.seq ?_
    refine Go1.region ?_
    refine GoR.op ((op_move rfl) _) rfl rfl ?_
    refine GoR.op ((op_nilCheck rfl) _) rfl rfl ?_
    refine GoR.op ((op_fieldAddr Try.underlying72 rfl ti29 rfl (by decide)) _) rfl rfl ?_
    refine GoR.op ((op_fieldAddr Try.underlying29 rfl ti22 rfl (by decide)) _) rfl rfl ?_
    refine GoR.op ((oblk (i := 6) 0 hO rfl rfl Try.underlying22 rfl rfl) _ (Same.refl _)) rfl rfl ?_
    refine GoR.op ((op_move rfl) _) rfl rfl ?_
    obtain ⟨vd, H⟩ := H
    obtain ⟨u7, H⟩ := H
    refine GoR.op ((op_index Try.underlying22 ti26 rfl rfl vd (ltn (bD.neq hO 5 rfl) u7) (bD.psome hO 5 rfl vd u7)) _) rfl rfl ?_
    have hobt := oldSl 5 hO rfl bD vd u7
    obtain ⟨Nv, Nw, Be, GU⟩ := hobt
    refine GoR.op ((GU Try.underlying26 rfl rfl) _ (Same.refl _)) rfl rfl ?_
    refine GoR.op ((op_move rfl) _) rfl rfl ?_
    obtain ⟨va, H⟩ := H
    obtain ⟨v7, H⟩ := H
    refine GoR.op ((op_index Try.underlying26 ti3 rfl rfl va v7 (Be.some_ va v7)) _) rfl rfl ?_
    refine GoR.op ((ldInt Be va v7 Try.underlying3 rfl rfl) _ (Same.refl _)) rfl rfl ?_
    refine GoR.op ((op_assign rfl) _) rfl rfl ?_
    refine GoR.nil ?_
    refine Go1.ret1V Try.func66 rfl (show _ = .int .i64 (ix (ix r14.Enum.Right i3_94) (IntKind.i64.wrap (IntKind.u8.wrap (((ix w_ (k3_95 : Int)).toNat : Int) - (97 : Int))))) from rfl) ?_
    refine hR99 _ _ ?_
    refine GoR.op ((op_assign rfl) _) rfl rfl ?_
    refine GoR.nil ?_
    refine Go1.inBlock ?_
    refine Go1.region ?_
    refine GoR.op ((op_add rfl rfl (wrap_i64 (natbd h96 nw))) _) rfl rfl ?_
    refine GoR.op ((op_move rfl) _) rfl rfl ?_
    refine GoR.nil ?_
    exact hX3 _ H _ _ ⟨⟨rfl, rfl, rfl, rfl, rfl, trivial⟩, hO, cd, bW, bU, cg, bD, b8, cO, cC, cf, hB⟩
   replace H := ifn h96 H
   refine GoR.op ((fun w => opB (op_lss rfl rfl w) (decide_eq_false h96)) _) rfl rfl ?_
   refine GoR.nil ?_
   refine Go1.seq ?_
   refine Go1.condF rfl rfl ?_
   refine Go1.exit rfl ?_
   refine Go1.seq ?_
   refine Go1.region ?_
   refine GoR.op ((op_move rfl) _) rfl rfl ?_
   refine GoR.op ((op_assign rfl) _) rfl rfl ?_
   refine GoR.nil ?_
   refine Go1.ret1V Try.func59 rfl (show _ = .int .i64 i3_94 from rfl) ?_
   refine hR73 _ _ ?_
   refine GoR.op ((op_assign rfl) _) rfl rfl ?_
   refine GoR.nil ?_
   refine Go1.ret1 Try.func30 rfl ?_
   exact ⟨i3_94, rfl, hB.same, H⟩
  replace H := ifn h44 H
  refine GoQ.pure rfl (fun w => opB (op_eql rfl rfl w) (decide_eq_false h44)) rfl rfl ?_
  refine GoQ.pure rfl (op_assign rfl) rfl rfl ?_
  refine GoQ.nil ?_
  refine Go1.ret1V Try.func50 rfl (show _ = .bool false from rfl) ?_
  refine hR40 _ _ ?_
  refine GoR.op ((op_pickT rfl rfl rfl) _) rfl rfl ?_
  refine GoR.op ((op_assign rfl) _) rfl rfl ?_
  refine GoR.op ((op_assign rfl) _) rfl rfl ?_
  refine GoR.nil ?_
  refine Go1.ret2V Try.func57 rfl (show _ = .pointer (some ⟨dQ, 0, none⟩) from rfl) (show _ = .bool false from rfl) ?_
  refine hR7 _ _ ?_
  refine GoR.op ((op_move rfl) _) rfl rfl ?_
  refine GoR.op ((op_extract rfl rfl) _) rfl rfl ?_
  refine GoR.op ((op_extract rfl rfl) _) rfl rfl ?_
  refine GoR.op ((op_assign rfl) _) rfl rfl ?_
  refine GoR.op ((op_assign rfl) _) rfl rfl ?_
  refine GoR.nil ?_
  refine Go1.seq ?_
  refine Go1.seq ?_
  refine Go1.cut [(1, .string (gstr w_)), (5, .pointer (some ⟨dQ, 0, none⟩)), (6, .bool false)] ⟨rfl, rfl, rfl, trivial⟩ ?_
  intro σ _
  refine Go1.region ?_
  refine GoR.op ((op_move rfl) _) rfl rfl ?_
  refine GoR.op ((op_not rfl) _) rfl rfl ?_
  refine GoR.op ((op_move rfl) _) rfl rfl ?_
  refine GoR.pass rfl rfl ?_
  refine GoR.pass rfl rfl ?_
  refine GoR.pass rfl rfl ?_
  refine GoR.pass rfl rfl ?_
  refine GoR.pass rfl rfl ?_
  refine GoR.pass rfl rfl ?_
  refine GoR.pass rfl rfl ?_
  refine GoR.pass rfl rfl ?_
  refine GoR.pass rfl rfl ?_
  refine GoR.op ((op_pickT rfl rfl rfl) _) rfl rfl ?_
  refine GoR.op ((op_move rfl) _) rfl rfl ?_
  refine GoR.pass rfl rfl ?_
  refine GoR.pass rfl rfl ?_
  refine GoR.pass rfl rfl ?_
  refine GoR.pass rfl rfl ?_
  refine GoR.pass rfl rfl ?_
  refine GoR.pass rfl rfl ?_
  refine GoR.pass rfl rfl ?_
  refine GoR.pass rfl rfl ?_
  refine GoR.pass rfl rfl ?_
  refine GoR.pass rfl rfl ?_
  refine GoR.op ((op_pickT rfl rfl rfl) _) rfl rfl ?_
  refine GoR.nil ?_
  refine Go1.condT rfl rfl ?_
  refine Go1.seq ?_
  refine Go1.cut [] trivial ?_
  intro σ _
  refine Go1.region ?_
  refine GoR.op ((op_assign rfl) _) rfl rfl ?_
  refine GoR.nil ?_
  refine Go1.ret1 Try.func30 rfl ?_
  exact ⟨(-1 : Int), rfl, hB.same, H⟩
end Sg
