/- The walks: each call keeps to its plain transformer. Printed by walkgen.py. -/
import Derived.Test.YtjegjjdfgefkoaaTi
import Derived.Test.YtjegjjdfgefkoaaWEnumerateBuilds
import Derived.Test.YtjegjjdfgefkoaaWEnumerateBuildsb
import Derived.Test.YtjegjjdfgefkoaaWEnumerateBuildsc
import Derived.Test.YtjegjjdfgefkoaaWEnumerateBuildsd
namespace Sg
open Go Go.RowKit Go.Proofs
set_option linter.unusedVariables false
set_option linter.unusedSimpArgs false
set_option maxRecDepth 100000
set_option maxHeartbeats 4000000
theorem body56 : Body Try.prog 56 := ⟨Try.f56, Try.func56, rfl, by kernel_rfl⟩
theorem walk_ref01_MayLetters {A : List Nat} {w0 : World} {letters : Int} (hA : ∀ b ∈ A, b < w0.heap.size) {K : Bool → Prop} (H : ref01_MayLetters letters K) :
    CallsV Try.prog 56 #[.int .i64 letters] w0 (fun v w' => ∃ (r0 : Bool), v = .bool r0 ∧ Same w0 w' ∧ K r0) := by
 refine CallsV.of (l := [.int .i64 letters]) Try.func56 rfl Try.ntmps56 rfl ?_
 have hO := Owns.start hA
 have hB := Fr.refl (bl []) w0
 unfold ref01_MayLetters at H
 refine Go1.seq ?_
 refine Go1.region ?_
 refine GoR.op ((op_assign rfl) _) rfl rfl ?_
 refine GoR.nil ?_
 refine Go1.seq ?_
 refine Go1.region ?_
 refine GoR.op ((op_move rfl) _) rfl rfl ?_
 by_cases h1 : (1 : Int) ≤ letters
 ·replace H := ifp h1 H
  refine GoR.op ((fun w => opB (op_geq rfl rfl w) (decide_eq_true h1)) _) rfl rfl ?_
  refine GoR.op ((op_move rfl) _) rfl rfl ?_
  refine GoR.op ((op_move rfl) _) rfl rfl ?_
  by_cases h2 : letters ≤ (6 : Int)
  ·replace H := ifp h2 H
   refine GoR.op ((fun w => opB (op_leq rfl rfl w) (decide_eq_true h2)) _) rfl rfl ?_
   refine GoR.op ((op_pickT rfl rfl rfl) _) rfl rfl ?_
   refine GoR.op ((op_assign rfl) _) rfl rfl ?_
   refine GoR.nil ?_
   refine Go1.ret1 Try.func56 rfl ?_
   exact ⟨true, rfl, hB.same, H⟩
  replace H := ifn h2 H
  refine GoR.op ((fun w => opB (op_leq rfl rfl w) (decide_eq_false h2)) _) rfl rfl ?_
  refine GoR.op ((op_pickT rfl rfl rfl) _) rfl rfl ?_
  refine GoR.op ((op_assign rfl) _) rfl rfl ?_
  refine GoR.nil ?_
  refine Go1.ret1 Try.func56 rfl ?_
  exact ⟨false, rfl, hB.same, H⟩
 replace H := ifn h1 H
 refine GoR.op ((fun w => opB (op_geq rfl rfl w) (decide_eq_false h1)) _) rfl rfl ?_
 refine GoR.op ((op_move rfl) _) rfl rfl ?_
 refine GoR.pass rfl rfl ?_
 refine GoR.pass rfl rfl ?_
 refine GoR.op ((op_pickF rfl rfl rfl) _) rfl rfl ?_
 refine GoR.op ((op_assign rfl) _) rfl rfl ?_
 refine GoR.nil ?_
 refine Go1.ret1 Try.func56 rfl ?_
 exact ⟨false, rfl, hB.same, H⟩
theorem body27 : Body Try.prog 27 := ⟨Try.f27, Try.func27, rfl, by kernel_rfl⟩
theorem walk_ref01_Valid {A : List Nat} {w0 : World} {w_ : Str} {letters : Int} (hA : ∀ b ∈ A, b < w0.heap.size) (nD : w_.length ≤ mx) {K : Bool → Prop} (H : ref01_Valid w_ letters K) :
    CallsV Try.prog 27 #[.string (gstr w_), .int .i64 letters] w0 (fun v w' => ∃ (r0 : Bool), v = .bool r0 ∧ Same w0 w' ∧ K r0) := by
 refine CallsV.of (l := [.string (gstr w_), .int .i64 letters]) Try.func27 rfl Try.ntmps27 rfl ?_
 have hO := Owns.start hA
 have hB := Fr.refl (bl []) w0
 unfold ref01_Valid at H
 refine Go1.seq ?_
 refine Go1.region ?_
 refine GoR.op ((op_assign rfl) _) rfl rfl ?_
 refine GoR.nil ?_
 refine Go1.seq ?_
 refine Go1.seq ?_
 refine Go1.region ?_
 refine GoR.op ((op_move rfl) _) rfl rfl ?_
 refine GoR.call (op_call body56 rfl (walk_ref01_MayLetters hO.lt H)) rfl rfl ?_
 rintro v5 w2 ⟨r1, rfl, hs3, H⟩
 have sv := Stp.same hO hs3
 replace hO := sv.own
 replace hB := hB.trans sv.fr
 cases r1
 ·replace H := ifn Bool.false_ne_true H
  refine GoR.op ((op_not rfl) _) rfl rfl ?_
  refine GoR.op ((op_move rfl) _) rfl rfl ?_
  refine GoR.pass rfl rfl ?_
  refine GoR.pass rfl rfl ?_
  refine GoR.pass rfl rfl ?_
  refine GoR.op ((op_pickT rfl rfl rfl) _) rfl rfl ?_
  refine GoR.nil ?_
  refine Go1.condT rfl rfl ?_
  refine Go1.seq ?_
  refine Go1.region ?_
  refine GoR.op ((op_assign rfl) _) rfl rfl ?_
  refine GoR.nil ?_
  refine Go1.ret1 Try.func27 rfl ?_
  exact ⟨false, rfl, hB.same, H⟩
 replace H := ifp rfl H
 refine GoR.op ((op_not rfl) _) rfl rfl ?_
 refine GoR.op ((op_move rfl) _) rfl rfl ?_
 refine GoR.op ((op_move rfl) _) rfl rfl ?_
 refine GoR.op ((op_lenS Try.underlying9 rfl) _) rfl rfl ?_
 replace H := H nD
 by_cases h7 : (2048 : Int) < (w_.length : Int)
 ·replace H := ifp h7 H
  refine GoR.op ((fun w => opB (op_gtr rfl rfl w) (decide_eq_true h7)) _) rfl rfl ?_
  refine GoR.op ((op_pickF rfl rfl rfl) _) rfl rfl ?_
  refine GoR.nil ?_
  refine Go1.condT rfl rfl ?_
  refine Go1.seq ?_
  refine Go1.region ?_
  refine GoR.op ((op_assign rfl) _) rfl rfl ?_
  refine GoR.nil ?_
  refine Go1.ret1 Try.func27 rfl ?_
  exact ⟨false, rfl, hB.same, H⟩
 replace H := ifn h7 H
 refine GoR.op ((fun w => opB (op_gtr rfl rfl w) (decide_eq_false h7)) _) rfl rfl ?_
 refine GoR.op ((op_pickF rfl rfl rfl) _) rfl rfl ?_
 refine GoR.nil ?_
 refine Go1.condF rfl rfl ?_
 refine Go1.skip ?_
 refine Go1.seq ?_
 refine Go1.seq ?_
 refine Go1.cut [(0, .string (gstr w_)), (1, .int .i64 letters)] ⟨rfl, rfl, trivial⟩ ?_
 intro σ _
 refine Go1.region ?_
 refine GoR.op ((op_assign rfl) _) rfl rfl ?_
 refine GoR.nil ?_
 refine Go1.block ?_
 refine Go1.loopW (S := Nat) (fun s σ w => agrees σ [(0, .string (gstr w_)), (1, .int .i64 letters), (5, .int .i64 (s : Int))] ∧ Owns w0.heap.size w [] A ∧ Fr (bl []) w0 (bl []) w) H ⟨⟨rfl, rfl, rfl, trivial⟩, hO, hB⟩ ?_
 intro X1 i1_9
 intro H hX1 σ w8
 refine andE fun hag => andE fun hO => fun hB => ?_
 refine Go1.keep [(0, .string (gstr w_)), (1, .int .i64 letters), (5, .int .i64 (i1_9 : Int))] hag ?_
 refine Go1.seq ?_
 refine Go1.seq ?_
 refine Go1.region ?_
 refine GoR.op ((op_move rfl) _) rfl rfl ?_
 refine GoR.op ((op_move rfl) _) rfl rfl ?_
 refine GoR.op ((op_lenS Try.underlying9 rfl) _) rfl rfl ?_
 by_cases h10 : (i1_9 : Int) < (w_.length : Int)
 ·replace H := ifp h10 H
  refine GoR.op ((fun w => opB (op_lss rfl rfl w) (decide_eq_true h10)) _) rfl rfl ?_
  refine GoR.nil ?_
  refine Go1.condT rfl rfl ?_
  refine Go1.skip ?_
  refine Go1.seq ?_
  refine Go1.block ?_
  refine Go1.seq ?_
  refine Go1.region ?_
  refine GoR.op ((op_move rfl) _) rfl rfl ?_
  refine GoR.op ((op_move rfl) _) rfl rfl ?_
  obtain ⟨h11, H⟩ := H
  obtain ⟨h12, H⟩ := H
  refine GoR.op ((op_indexS Try.underlying9 rfl rfl h11 h12) _) rfl rfl ?_
  by_cases h13 : ((ix w_ (i1_9 : Int)).toNat : Int) < (97 : Int)
  ·replace H := ifp h13 H
   refine GoR.op ((fun w => opB (op_lss rfl rfl w) (decide_eq_true h13)) _) rfl rfl ?_
   refine GoR.op ((op_move rfl) _) rfl rfl ?_
   refine GoR.pass rfl rfl ?_
   refine GoR.pass rfl rfl ?_
   refine GoR.pass rfl rfl ?_
   refine GoR.pass rfl rfl ?_
   refine GoR.pass rfl rfl ?_
   refine GoR.pass rfl rfl ?_
   refine GoR.pass rfl rfl ?_
   refine GoR.op ((op_pickT rfl rfl rfl) _) rfl rfl ?_
   refine GoR.nil ?_
   refine Go1.condT rfl rfl ?_
   refine Go1.seq ?_
   refine Go1.region ?_
   refine GoR.op ((op_assign rfl) _) rfl rfl ?_
   refine GoR.nil ?_
   refine Go1.ret1 Try.func27 rfl ?_
   exact ⟨false, rfl, hB.same, H⟩
  replace H := ifn h13 H
  refine GoR.op ((fun w => opB (op_lss rfl rfl w) (decide_eq_false h13)) _) rfl rfl ?_
  refine GoR.op ((op_move rfl) _) rfl rfl ?_
  refine GoR.op ((op_move rfl) _) rfl rfl ?_
  refine GoR.op ((op_move rfl) _) rfl rfl ?_
  obtain ⟨h14, H⟩ := H
  obtain ⟨h15, H⟩ := H
  refine GoR.op ((op_indexS Try.underlying9 rfl rfl h14 h15) _) rfl rfl ?_
  refine GoR.op ((op_sub rfl rfl rfl) _) rfl rfl ?_
  refine GoR.op ((op_conv Try.underlying5 Try.underlying3 rfl rfl) _) rfl rfl ?_
  refine GoR.op ((op_move rfl) _) rfl rfl ?_
  by_cases h16 : letters ≤ (IntKind.i64.wrap (IntKind.u8.wrap (((ix w_ (i1_9 : Int)).toNat : Int) - (97 : Int))))
  ·replace H := ifp h16 H
   refine GoR.op ((fun w => opB (op_geq rfl rfl w) (decide_eq_true h16)) _) rfl rfl ?_
   refine GoR.op ((op_pickF rfl rfl rfl) _) rfl rfl ?_
   refine GoR.nil ?_
   refine Go1.condT rfl rfl ?_
   refine Go1.seq ?_
   refine Go1.cut [] trivial ?_
   intro σ _
   refine Go1.region ?_
   refine GoR.op ((op_assign rfl) _) rfl rfl ?_
   refine GoR.nil ?_
   refine Go1.ret1 Try.func27 rfl ?_
   exact ⟨false, rfl, hB.same, H⟩
  replace H := ifn h16 H
  refine GoR.op ((fun w => opB (op_geq rfl rfl w) (decide_eq_false h16)) _) rfl rfl ?_
  refine GoR.op ((op_pickF rfl rfl rfl) _) rfl rfl ?_
  refine GoR.nil ?_
  refine Go1.condF rfl rfl ?_
  refine Go1.skip ?_
  refine Go1.inBlock ?_
  refine Go1.region ?_
  refine GoR.op ((op_move rfl) _) rfl rfl ?_
  refine GoR.op ((op_add rfl rfl (wrap_i64 (natbd h10 nD))) _) rfl rfl ?_
  refine GoR.op ((op_assign rfl) _) rfl rfl ?_
  refine GoR.nil ?_
  exact hX1 _ H _ _ ⟨⟨rfl, rfl, rfl, trivial⟩, hO, hB⟩
 replace H := ifn h10 H
 refine GoR.op ((fun w => opB (op_lss rfl rfl w) (decide_eq_false h10)) _) rfl rfl ?_
 refine GoR.nil ?_
 refine Go1.condF rfl rfl ?_
 refine Go1.exit rfl ?_
 refine Go1.seq ?_
 refine Go1.region ?_
 refine GoR.op ((op_assign rfl) _) rfl rfl ?_
 refine GoR.nil ?_
 refine Go1.ret1 Try.func27 rfl ?_
 exact ⟨true, rfl, hB.same, H⟩
theorem body28 : Body Try.prog 28 := ⟨Try.f28, Try.func28, rfl, by kernel_rfl⟩
theorem walk_ref01_IsFactor {A : List Nat} {w0 : World} {u : Str} {w_ : Str} (hA : ∀ b ∈ A, b < w0.heap.size) (IN : u.length ≤ mx) (nD : w_.length ≤ mx) {K : Bool → Prop} (H : ref01_IsFactor u w_ K) :
    CallsV Try.prog 28 #[.string (gstr u), .string (gstr w_)] w0 (fun v w' => ∃ (r0 : Bool), v = .bool r0 ∧ Same w0 w' ∧ K r0) := by
 refine CallsV.of (l := [.string (gstr u), .string (gstr w_)]) Try.func28 rfl Try.ntmps28 rfl ?_
 have hO := Owns.start hA
 have hB := Fr.refl (bl []) w0
 unfold ref01_IsFactor at H
 refine Go1.seq ?_
 refine Go1.region ?_
 refine GoR.op ((op_assign rfl) _) rfl rfl ?_
 refine GoR.nil ?_
 refine Go1.seq ?_
 refine Go1.seq ?_
 refine Go1.region ?_
 refine GoR.op ((op_assign rfl) _) rfl rfl ?_
 refine GoR.nil ?_
 refine Go1.block ?_
 refine Go1.loopW (S := Nat) (fun s σ w => agrees σ [(0, .string (gstr u)), (1, .string (gstr w_)), (5, .int .i64 (s : Int))] ∧ Owns w0.heap.size w [] A ∧ Fr (bl []) w0 (bl []) w) H ⟨⟨rfl, rfl, rfl, trivial⟩, hO, hB⟩ ?_
 intro X1 i1_2
 intro H hX1 σ w1
 refine andE fun hag => andE fun hO => fun hB => ?_
 refine Go1.keep [(0, .string (gstr u)), (1, .string (gstr w_)), (5, .int .i64 (i1_2 : Int))] hag ?_
 refine Go1.seq ?_
 refine Go1.seq ?_
 refine Go1.region ?_
 refine GoR.op ((op_move rfl) _) rfl rfl ?_
 refine GoR.op ((op_move rfl) _) rfl rfl ?_
 refine GoR.op ((op_lenS Try.underlying9 rfl) _) rfl rfl ?_
 replace H := H IN
 obtain ⟨h3, H⟩ := H
 refine GoR.op ((op_add rfl rfl (wrap_i64 h3)) _) rfl rfl ?_
 refine GoR.op ((op_move rfl) _) rfl rfl ?_
 refine GoR.op ((op_lenS Try.underlying9 rfl) _) rfl rfl ?_
 replace H := H nD
 by_cases h4 : ((i1_2 : Int) + (u.length : Int)) ≤ (w_.length : Int)
 ·replace H := ifp h4 H
  refine GoR.op ((fun w => opB (op_leq rfl rfl w) (decide_eq_true h4)) _) rfl rfl ?_
  refine GoR.nil ?_
  refine Go1.condT rfl rfl ?_
  refine Go1.skip ?_
  refine Go1.seq ?_
  refine Go1.block ?_
  refine Go1.seq ?_
  refine Go1.region ?_
  refine GoR.op ((op_move rfl) _) rfl rfl ?_
  refine GoR.op ((op_move rfl) _) rfl rfl ?_
  refine GoR.op ((op_move rfl) _) rfl rfl ?_
  refine GoR.op ((op_move rfl) _) rfl rfl ?_
  refine GoR.op ((op_lenS Try.underlying9 rfl) _) rfl rfl ?_
  obtain ⟨h5, H⟩ := H
  refine GoR.op ((op_add rfl rfl (wrap_i64 h5)) _) rfl rfl ?_
  obtain ⟨h6, H⟩ := H
  obtain ⟨h7, H⟩ := H
  obtain ⟨h8, H⟩ := H
  refine GoR.op ((op_sliceS2 Try.underlying9 rfl rfl rfl h6 h7 h8) _) rfl rfl ?_
  refine GoR.op ((op_move rfl) _) rfl rfl ?_
  by_cases h9 : ((w_.drop (i1_2 : Int).toNat).take (((i1_2 : Int) + (u.length : Int)).toNat - (i1_2 : Int).toNat)) = u
  ·replace H := ifp h9 H
   refine GoR.op ((fun w => opB (op_eqlS rfl rfl w) (decide_eq_true h9)) _) rfl rfl ?_
   refine GoR.nil ?_
   refine Go1.condT rfl rfl ?_
   refine Go1.seq ?_
   refine Go1.region ?_
   refine GoR.op ((op_assign rfl) _) rfl rfl ?_
   refine GoR.nil ?_
   refine Go1.ret1 Try.func28 rfl ?_
   exact ⟨true, rfl, hB.same, H⟩
  replace H := ifn h9 H
  refine GoR.op ((fun w => opB (op_eqlS rfl rfl w) (decide_eq_false h9)) _) rfl rfl ?_
  refine GoR.nil ?_
  refine Go1.condF rfl rfl ?_
  refine Go1.skip ?_
  refine Go1.inBlock ?_
  refine Go1.region ?_
  refine GoR.op ((op_move rfl) _) rfl rfl ?_
  obtain ⟨h10, H⟩ := H
  refine GoR.op ((op_add rfl rfl (wrap_i64 h10)) _) rfl rfl ?_
  refine GoR.op ((op_assign rfl) _) rfl rfl ?_
  refine GoR.nil ?_
  exact hX1 _ H _ _ ⟨⟨rfl, rfl, rfl, trivial⟩, hO, hB⟩
 replace H := ifn h4 H
 refine GoR.op ((fun w => opB (op_leq rfl rfl w) (decide_eq_false h4)) _) rfl rfl ?_
 refine GoR.nil ?_
 refine Go1.condF rfl rfl ?_
 refine Go1.exit rfl ?_
 refine Go1.seq ?_
 refine Go1.cut [] trivial ?_
 intro σ _
 refine Go1.region ?_
 refine GoR.op ((op_assign rfl) _) rfl rfl ?_
 refine GoR.nil ?_
 refine Go1.ret1 Try.func28 rfl ?_
 exact ⟨false, rfl, hB.same, H⟩
theorem body58 : Body Try.prog 58 := ⟨Try.f58, Try.func58, rfl, by kernel_rfl⟩
theorem walk_word_Valid {A : List Nat} {w0 : World} {w_ : Str} {letters : Int} (hA : ∀ b ∈ A, b < w0.heap.size) (nD : w_.length ≤ mx) {K : Bool → Prop} (H : word_Valid w_ letters K) :
    CallsV Try.prog 58 #[.string (gstr w_), .int .i64 letters] w0 (fun v w' => ∃ (r0 : Bool), v = .bool r0 ∧ Same w0 w' ∧ K r0) := by
 refine CallsV.of (l := [.string (gstr w_), .int .i64 letters]) Try.func58 rfl Try.ntmps58 rfl ?_
 have hO := Owns.start hA
 have hB := Fr.refl (bl []) w0
 unfold word_Valid at H
 refine Go1.seq ?_
 refine Go1.region ?_
 refine GoR.op ((op_assign rfl) _) rfl rfl ?_
 refine GoR.nil ?_
 refine Go1.seq ?_
 refine Go1.seq ?_
 refine Go1.region ?_
 refine GoR.op ((op_move rfl) _) rfl rfl ?_
 by_cases h1 : letters < (1 : Int)
 ·replace H := ifp h1 H
  refine GoR.op ((fun w => opB (op_lss rfl rfl w) (decide_eq_true h1)) _) rfl rfl ?_
  refine GoR.op ((op_move rfl) _) rfl rfl ?_
  refine GoR.pass rfl rfl ?_
  refine GoR.pass rfl rfl ?_
  refine GoR.op ((op_pickT rfl rfl rfl) _) rfl rfl ?_
  refine GoR.op ((op_move rfl) _) rfl rfl ?_
  refine GoR.pass rfl rfl ?_
  refine GoR.pass rfl rfl ?_
  refine GoR.pass rfl rfl ?_
  refine GoR.op ((op_pickT rfl rfl rfl) _) rfl rfl ?_
  refine GoR.nil ?_
  refine Go1.condT rfl rfl ?_
  refine Go1.seq ?_
  refine Go1.region ?_
  refine GoR.op ((op_assign rfl) _) rfl rfl ?_
  refine GoR.nil ?_
  refine Go1.ret1 Try.func58 rfl ?_
  exact ⟨false, rfl, hB.same, H⟩
 replace H := ifn h1 H
 refine GoR.op ((fun w => opB (op_lss rfl rfl w) (decide_eq_false h1)) _) rfl rfl ?_
 refine GoR.op ((op_move rfl) _) rfl rfl ?_
 refine GoR.op ((op_move rfl) _) rfl rfl ?_
 by_cases h2 : (6 : Int) < letters
 ·replace H := ifp h2 H
  refine GoR.op ((fun w => opB (op_gtr rfl rfl w) (decide_eq_true h2)) _) rfl rfl ?_
  refine GoR.op ((op_pickF rfl rfl rfl) _) rfl rfl ?_
  refine GoR.op ((op_move rfl) _) rfl rfl ?_
  refine GoR.pass rfl rfl ?_
  refine GoR.pass rfl rfl ?_
  refine GoR.pass rfl rfl ?_
  refine GoR.op ((op_pickT rfl rfl rfl) _) rfl rfl ?_
  refine GoR.nil ?_
  refine Go1.condT rfl rfl ?_
  refine Go1.seq ?_
  refine Go1.cut [] trivial ?_
  intro σ _
  refine Go1.region ?_
  refine GoR.op ((op_assign rfl) _) rfl rfl ?_
  refine GoR.nil ?_
  refine Go1.ret1 Try.func58 rfl ?_
  exact ⟨false, rfl, hB.same, H⟩
 replace H := ifn h2 H
 refine GoR.op ((fun w => opB (op_gtr rfl rfl w) (decide_eq_false h2)) _) rfl rfl ?_
 refine GoR.op ((op_pickF rfl rfl rfl) _) rfl rfl ?_
 refine GoR.op ((op_move rfl) _) rfl rfl ?_
 refine GoR.op ((op_move rfl) _) rfl rfl ?_
 refine GoR.op ((op_lenS Try.underlying9 rfl) _) rfl rfl ?_
 replace H := H nD
 by_cases h3 : (2048 : Int) < (w_.length : Int)
 ·replace H := ifp h3 H
  refine GoR.op ((fun w => opB (op_gtr rfl rfl w) (decide_eq_true h3)) _) rfl rfl ?_
  refine GoR.op ((op_pickF rfl rfl rfl) _) rfl rfl ?_
  refine GoR.nil ?_
  refine Go1.condT rfl rfl ?_
  refine Go1.seq ?_
  refine Go1.region ?_
  refine GoR.op ((op_assign rfl) _) rfl rfl ?_
  refine GoR.nil ?_
  refine Go1.ret1 Try.func58 rfl ?_
  exact ⟨false, rfl, hB.same, H⟩
 replace H := ifn h3 H
 refine GoR.op ((fun w => opB (op_gtr rfl rfl w) (decide_eq_false h3)) _) rfl rfl ?_
 refine GoR.op ((op_pickF rfl rfl rfl) _) rfl rfl ?_
 refine GoR.nil ?_
 refine Go1.condF rfl rfl ?_
 refine Go1.skip ?_
 refine Go1.seq ?_
 refine Go1.seq ?_
 refine Go1.region ?_
 refine GoR.op ((op_move rfl) _) rfl rfl ?_
 refine GoR.op ((op_lenS Try.underlying9 rfl) _) rfl rfl ?_
 refine GoR.op ((op_move rfl) _) rfl rfl ?_
 refine GoR.nil ?_
 refine Go1.block ?_
 refine Go1.loopW (S := Nat) (fun s σ w => agrees σ [(0, .string (gstr w_)), (1, .int .i64 letters), (18, .int .i64 (w_.length : Int)), (19, .int .i64 (s : Int))] ∧ Owns w0.heap.size w [] A ∧ Fr (bl []) w0 (bl []) w) H ⟨⟨rfl, rfl, rfl, rfl, trivial⟩, hO, hB⟩ ?_
 intro X1 k1_5
 intro H hX1 σ w4
 refine andE fun hag => andE fun hO => fun hB => ?_
 refine Go1.keep [(0, .string (gstr w_)), (1, .int .i64 letters), (18, .int .i64 (w_.length : Int)), (19, .int .i64 (k1_5 : Int))] hag ?_
 refine Go1.seq ?_
 refine Go1.region ?_
 by_cases h6 : (k1_5 : Int) < (w_.length : Int)
 ·replace H := ifp h6 H
  refine GoR.op ((fun w => opB (op_lss rfl rfl w) (decide_eq_true h6)) _) rfl rfl ?_
  refine GoR.nil ?_
  refine Go1.seq ?_
  refine Go1.condT rfl rfl ?_
  refine Go1.skip ?_
  refine Go1.seq ?_
  refine Go1.block ?_
  refine Go1.seq ?_
  refine Go1.region ?_
  refine GoR.op ((op_move rfl) _) rfl rfl ?_
  refine GoR.op ((op_assign rfl) _) rfl rfl ?_
  refine GoR.nil ?_
  refine Go1.seq ?_
  refine Go1.region ?_
  refine GoR.op ((op_move rfl) _) rfl rfl ?_
  refine GoR.op ((op_move rfl) _) rfl rfl ?_
  obtain ⟨h7, H⟩ := H
  obtain ⟨h8, H⟩ := H
  refine GoR.op ((op_indexS Try.underlying9 rfl rfl h7 h8) _) rfl rfl ?_
  by_cases h9 : ((ix w_ (k1_5 : Int)).toNat : Int) < (97 : Int)
  ·replace H := ifp h9 H
   refine GoR.op ((fun w => opB (op_lss rfl rfl w) (decide_eq_true h9)) _) rfl rfl ?_
   refine GoR.op ((op_move rfl) _) rfl rfl ?_
   refine GoR.pass rfl rfl ?_
   refine GoR.pass rfl rfl ?_
   refine GoR.pass rfl rfl ?_
   refine GoR.pass rfl rfl ?_
   refine GoR.pass rfl rfl ?_
   refine GoR.pass rfl rfl ?_
   refine GoR.pass rfl rfl ?_
   refine GoR.op ((op_pickT rfl rfl rfl) _) rfl rfl ?_
   refine GoR.nil ?_
   refine Go1.condT rfl rfl ?_
   refine Go1.seq ?_
   refine Go1.region ?_
   refine GoR.op ((op_assign rfl) _) rfl rfl ?_
   refine GoR.nil ?_
   refine Go1.ret1 Try.func58 rfl ?_
   exact ⟨false, rfl, hB.same, H⟩
  replace H := ifn h9 H
  refine GoR.op ((fun w => opB (op_lss rfl rfl w) (decide_eq_false h9)) _) rfl rfl ?_
  refine GoR.op ((op_move rfl) _) rfl rfl ?_
  refine GoR.op ((op_move rfl) _) rfl rfl ?_
  refine GoR.op ((op_move rfl) _) rfl rfl ?_
  obtain ⟨h10, H⟩ := H
  obtain ⟨h11, H⟩ := H
  refine GoR.op ((op_indexS Try.underlying9 rfl rfl h10 h11) _) rfl rfl ?_
  refine GoR.op ((op_sub rfl rfl rfl) _) rfl rfl ?_
  refine GoR.op ((op_conv Try.underlying5 Try.underlying3 rfl rfl) _) rfl rfl ?_
  refine GoR.op ((op_move rfl) _) rfl rfl ?_
  by_cases h12 : letters ≤ (IntKind.i64.wrap (IntKind.u8.wrap (((ix w_ (k1_5 : Int)).toNat : Int) - (97 : Int))))
  ·replace H := ifp h12 H
   refine GoR.op ((fun w => opB (op_geq rfl rfl w) (decide_eq_true h12)) _) rfl rfl ?_
   refine GoR.op ((op_pickF rfl rfl rfl) _) rfl rfl ?_
   refine GoR.nil ?_
   refine Go1.condT rfl rfl ?_
   refine Go1.seq ?_
   refine Go1.cut [] trivial ?_
   intro σ _
   refine Go1.region ?_
   refine GoR.op ((op_assign rfl) _) rfl rfl ?_
   refine GoR.nil ?_
   refine Go1.ret1 Try.func58 rfl ?_
   exact ⟨false, rfl, hB.same, H⟩
  replace H := ifn h12 H
  refine GoR.op ((fun w => opB (op_geq rfl rfl w) (decide_eq_false h12)) _) rfl rfl ?_
  refine GoR.op ((op_pickF rfl rfl rfl) _) rfl rfl ?_
  refine GoR.nil ?_
  refine Go1.condF rfl rfl ?_
  refine Go1.skip ?_
  refine Go1.inBlock ?_
  refine Go1.region ?_
  refine GoR.op ((op_add rfl rfl (wrap_i64 (natbd h6 nD))) _) rfl rfl ?_
  refine GoR.op ((op_move rfl) _) rfl rfl ?_
  refine GoR.nil ?_
  exact hX1 _ H _ _ ⟨⟨rfl, rfl, rfl, rfl, trivial⟩, hO, hB⟩
 replace H := ifn h6 H
 refine GoR.op ((fun w => opB (op_lss rfl rfl w) (decide_eq_false h6)) _) rfl rfl ?_
 refine GoR.nil ?_
 refine Go1.seq ?_
 refine Go1.condF rfl rfl ?_
 refine Go1.exit rfl ?_
 refine Go1.seq ?_
 refine Go1.region ?_
 refine GoR.op ((op_assign rfl) _) rfl rfl ?_
 refine GoR.nil ?_
 refine Go1.ret1 Try.func58 rfl ?_
 exact ⟨true, rfl, hB.same, H⟩
theorem body59 : Body Try.prog 59 := ⟨Try.f59, Try.func59, rfl, by kernel_rfl⟩
theorem body57 : Body Try.prog 57 := ⟨Try.f57, Try.func57, rfl, by kernel_rfl⟩
theorem body30 : Body Try.prog 30 := ⟨Try.f30, Try.func30, rfl, by kernel_rfl⟩
theorem walk_enumerate_OfWord {A : List Nat} {w0 : World} {bp : Option Addr} {bq : Nat} {aO : Option Addr} {aP : Nat} {ar : Option Addr} {au : Nat} {bg : Option Addr} {bh : Nat} {aQ : Option Addr} {aR : Nat} {aS : Option Addr} {aT : Nat} {e : Enum} {w_ : Str} (hA : ∀ b ∈ A, b < w0.heap.size) (ah : ISl (Rp.sl (Rp.int .i64)) A w0 bp bq e.Gens) (ae : ISl (Rp.sl (Rp.int .i64)) A w0 aO aP e.Elems) (ad : ISl (Rp.int .i64) A w0 ar au e.Prefix) (ai : ISl (Rp.int .i64) A w0 bg bh e.Last) (af : ISl (Rp.sl (Rp.int .i64)) A w0 aQ aR e.Right) (ag : ISl (rpRule) A w0 aS aT e.Rules) (nD : w_.length ≤ mx) {K : Int → Prop} (H : enumerate_OfWord e w_ K) :
    CallsV Try.prog 30 #[.agg #[.int .i64 e.Points, .bool e.Monoid, .slice bp e.Gens.length bq, .slice aO e.Elems.length aP, .slice ar e.Prefix.length au, .slice bg e.Last.length bh, .slice aQ e.Right.length aR, .slice aS e.Rules.length aT, .int .i64 e.Done], .string (gstr w_)] w0 (fun v w' => ∃ (r0 : Int), v = .int .i64 r0 ∧ Same w0 w' ∧ K r0) := by
 refine CallsV.of (l := [.agg #[.int .i64 e.Points, .bool e.Monoid, .slice bp e.Gens.length bq, .slice aO e.Elems.length aP, .slice ar e.Prefix.length au, .slice bg e.Last.length bh, .slice aQ e.Right.length aR, .slice aS e.Rules.length aT, .int .i64 e.Done], .string (gstr w_)]) Try.func30 rfl Try.ntmps30 rfl ?_
 have hO := Owns.start hA
 have hB := Fr.refl (bl []) w0
 unfold enumerate_OfWord at H
 replace ah := ah.ch (Ch.start A w0)
 replace ae := ae.ch (Ch.start A w0)
 replace ad := ad.ch (Ch.start A w0)
 replace ai := ai.ch (Ch.start A w0)
 replace af := af.ch (Ch.start A w0)
 replace ag := ag.ch (Ch.start A w0)
 refine Go1.seq ?_
 refine Go1.region ?_
 have hobt := obox (t := 29) (v := .agg #[.int .i64 e.Points, .bool e.Monoid, .slice bp e.Gens.length bq, .slice aO e.Elems.length aP, .slice ar e.Prefix.length au, .slice bg e.Last.length bh, .slice aQ e.Right.length aR, .slice aS e.Rules.length aT, .int .i64 e.Done]) (cs := #[.int .i64 e.Points, .bool e.Monoid, .slice bp e.Gens.length bq, .slice aO e.Elems.length aP, .slice ar e.Prefix.length au, .slice bg e.Last.length bh, .slice aQ e.Right.length aR, .slice aS e.Rules.length aT, .int .i64 e.Done]) hO rfl
 obtain ⟨w1, B2, jo, hs4, wl⟩ := hobt
 refine GoR.op (wl rfl) rfl rfl ?_
 replace hO := jo.own
 replace ah := ah.ch jo.ch
 replace ae := ae.ch jo.ch
 replace ad := ad.ch jo.ch
 replace ai := ai.ch jo.ch
 replace af := af.ch jo.ch
 replace ag := ag.ch jo.ch
 replace hB := hB.trans jo.fr
 refine GoR.op ((op_assign rfl) _) rfl rfl ?_
 refine GoR.nil ?_
 refine Go1.seq ?_
 refine Go1.region ?_
 refine GoR.op ((oblkAgg (vs := [.int .i64 e.Points, .bool e.Monoid, .slice bp e.Gens.length bq, .slice aO e.Elems.length aP, .slice ar e.Prefix.length au, .slice bg e.Last.length bh, .slice aQ e.Right.length aR, .slice aS e.Rules.length aT, .int .i64 e.Done]) (i := 0) 0 hO rfl rfl Try.underlying29 rfl ti29 rfl) _ (Same.refl _)) rfl rfl ?_
 refine GoR.inl (vs := [.agg #[.int .i64 e.Points, .bool e.Monoid, .slice bp e.Gens.length bq, .slice aO e.Elems.length aP, .slice ar e.Prefix.length au, .slice bg e.Last.length bh, .slice aQ e.Right.length aR, .slice aS e.Rules.length aT, .int .i64 e.Done]]) (caps := []) rfl rfl body57 Try.func57 rfl Try.ntmps57 rfl rfl rfl ?_
 intro RhR7 hR7
 refine Go1.seq ?_
 refine Go1.region ?_
 have hobt := obox (t := 29) (v := .agg #[.int .i64 e.Points, .bool e.Monoid, .slice bp e.Gens.length bq, .slice aO e.Elems.length aP, .slice ar e.Prefix.length au, .slice bg e.Last.length bh, .slice aQ e.Right.length aR, .slice aS e.Rules.length aT, .int .i64 e.Done]) (cs := #[.int .i64 e.Points, .bool e.Monoid, .slice bp e.Gens.length bq, .slice aO e.Elems.length aP, .slice ar e.Prefix.length au, .slice bg e.Last.length bh, .slice aQ e.Right.length aR, .slice aS e.Rules.length aT, .int .i64 e.Done]) hO rfl
 obtain ⟨w8, B9, rV, u9, GQ⟩ := hobt
 refine GoR.op (GQ rfl) rfl rfl ?_
 replace hO := rV.own
 replace ah := ah.ch rV.ch
 replace ae := ae.ch rV.ch
 replace ad := ad.ch rV.ch
 replace ai := ai.ch rV.ch
 replace af := af.ch rV.ch
 replace ag := ag.ch rV.ch
 replace hB := hB.trans rV.fr
 refine GoR.op ((op_assign rfl) _) rfl rfl ?_
 refine GoR.op ((op_assign rfl) _) rfl rfl ?_
 refine GoR.nil ?_
 refine Go1.seq ?_
 refine Go1.region ?_
 refine GoR.op ((oblkAgg (vs := [.int .i64 e.Points, .bool e.Monoid, .slice bp e.Gens.length bq, .slice aO e.Elems.length aP, .slice ar e.Prefix.length au, .slice bg e.Last.length bh, .slice aQ e.Right.length aR, .slice aS e.Rules.length aT, .int .i64 e.Done]) (i := 0) 0 hO rfl rfl Try.underlying29 rfl ti29 rfl) _ (Same.refl _)) rfl rfl ?_
 refine GoR.call (op_call body53 rfl (walk_enumerate_replay (e := e) hO.lt ah ae ad ai af ag H)) rfl rfl ?_
 intro v16 w17 hcase20
 refine Or.elim hcase20 ?_ ?_
 ·refine exE fun r15 => andE fun hv21 => andE fun AP => fun H => ?_
  subst hv21
  clear hcase20
  replace H := oElimN H
  have mB := Stp.same hO AP
  replace hO := mB.own
  replace ah := ah.ch mB.ch
  replace ae := ae.ch mB.ch
  replace ad := ad.ch mB.ch
  replace ai := ai.ch mB.ch
  replace af := af.ch mB.ch
  replace ag := ag.ch mB.ch
  replace hB := hB.trans mB.fr
  refine GoR.op ((op_move rfl) _) rfl rfl ?_
  refine GoR.op ((op_extract rfl rfl) _) rfl rfl ?_
  refine GoR.op ((op_extract rfl rfl) _) rfl rfl ?_
  refine GoR.op ((op_assign rfl) _) rfl rfl ?_
  refine GoR.op ((op_assign rfl) _) rfl rfl ?_
  refine GoR.nil ?_
  refine Go1.seq ?_
  refine Go1.region ?_
  refine GoR.op ((op_move rfl) _) rfl rfl ?_
  refine GoR.op ((op_move rfl) _) rfl rfl ?_
  refine GoR.op ((op_move rfl) _) rfl rfl ?_
  cases r15
  ·replace H := ifn Bool.false_ne_true H
   refine GoR.pass rfl rfl ?_
   refine GoR.pass rfl rfl ?_
   refine GoR.op ((op_pickF rfl rfl rfl) _) rfl rfl ?_
   refine GoR.op ((op_assign rfl) _) rfl rfl ?_
   refine GoR.op ((op_assign rfl) _) rfl rfl ?_
   refine GoR.nil ?_
   refine Go1.ret2V Try.func57 rfl (show _ = .pointer none from rfl) (show _ = .bool false from rfl) ?_
   refine hR7 _ _ ?_
   refine GoR.op ((op_move rfl) _) rfl rfl ?_
   refine GoR.op ((op_extract rfl rfl) _) rfl rfl ?_
   refine GoR.op ((op_extract rfl rfl) _) rfl rfl ?_
   refine GoR.op ((op_assign rfl) _) rfl rfl ?_
   refine GoR.op ((op_assign rfl) _) rfl rfl ?_
   refine GoR.nil ?_
   refine Go1.seq ?_
   refine Go1.seq ?_
   refine Go1.cut [(1, .string (gstr w_)), (5, .pointer none), (6, .bool false)] ⟨rfl, rfl, rfl, trivial⟩ ?_
   intro σ _
   refine Go1.region ?_
   refine GoR.op ((op_move rfl) _) rfl rfl ?_
   refine GoR.op ((op_not rfl) _) rfl rfl ?_
   refine GoR.op ((op_move rfl) _) rfl rfl ?_
   refine GoR.pass rfl rfl ?_
   refine GoR.pass rfl rfl ?_
   refine GoR.pass rfl rfl ?_
   refine GoR.pass rfl rfl ?_
   refine GoR.pass rfl rfl ?_
   refine GoR.pass rfl rfl ?_
   refine GoR.pass rfl rfl ?_
   refine GoR.pass rfl rfl ?_
   refine GoR.pass rfl rfl ?_
   refine GoR.op ((op_pickT rfl rfl rfl) _) rfl rfl ?_
   refine GoR.op ((op_move rfl) _) rfl rfl ?_
   refine GoR.pass rfl rfl ?_
   refine GoR.pass rfl rfl ?_
   refine GoR.pass rfl rfl ?_
   refine GoR.pass rfl rfl ?_
   refine GoR.pass rfl rfl ?_
   refine GoR.pass rfl rfl ?_
   refine GoR.pass rfl rfl ?_
   refine GoR.pass rfl rfl ?_
   refine GoR.pass rfl rfl ?_
   refine GoR.pass rfl rfl ?_
   refine GoR.op ((op_pickT rfl rfl rfl) _) rfl rfl ?_
   refine GoR.nil ?_
   refine Go1.condT rfl rfl ?_
   refine Go1.seq ?_
   refine Go1.cut [] trivial ?_
   intro σ _
   refine Go1.region ?_
   refine GoR.op ((op_assign rfl) _) rfl rfl ?_
   refine GoR.nil ?_
   refine Go1.ret1 Try.func30 rfl ?_
   exact ⟨(-1 : Int), rfl, hB.same, H⟩
  replace H := ifp rfl H
  refine GoR.op ((op_move rfl) _) rfl rfl ?_
  refine GoR.inl (vs := [.pointer none]) (caps := []) rfl rfl body50 Try.func50 rfl Try.ntmps50 rfl rfl rfl ?_
  intro RhR23 hR23
  refine Go1.seq ?_
  refine Go1.region ?_
  refine GoR.op ((op_assign rfl) _) rfl rfl ?_
  refine GoR.nil ?_
  refine Go1.seq ?_
  refine Go1.drawS 0 [(0, .pure), (1, .pure), (2, .pure), (3, .pure), (4, .stable), (5, .pure), (6, .pure), (7, .pure), (8, .pure), (9, .stable), (10, .pure), (11, .pure), (12, .pure)] mixed (by kernel_rfl) ?_
  intro w24 Do
  have rm := Stp.same hO Do
  replace hO := rm.own
  replace ah := ah.ch rm.ch
  replace ae := ae.ch rm.ch
  replace ad := ad.ch rm.ch
  replace ai := ai.ch rm.ch
  replace af := af.ch rm.ch
  replace ag := ag.ch rm.ch
  replace hB := hB.trans rm.fr
  refine GoQ.pure rfl (op_move rfl) rfl rfl ?_
  exact H.elim
 ·refine exE fun r14 => exE fun r15 => exE fun dP => exE fun aF => exE fun aG => exE fun aH => exE fun cd => exE fun av => exE fun aw => exE fun ax => exE fun bY => exE fun ak => exE fun al => exE fun am => exE fun bN => exE fun aI => exE fun aJ => exE fun aK => exE fun ce => exE fun ay => exE fun az => exE fun aA => exE fun bZ => exE fun aB => exE fun aC => exE fun aD => exE fun b4 => exE fun bt => exE fun bG => exE fun bH => exE fun bI => exE fun cP => exE fun bu => exE fun bv => exE fun bw => exE fun cy => exE fun bx => exE fun bz => exE fun bA => exE fun cz => andE fun hv27 => andE fun AP => andE fun hN19 => andE fun b5 => andE fun bO => andE fun bM => andE fun b9 => andE fun bB => andE fun bX => andE fun cJ => andE fun cw => andE fun b8 => fun H => ?_
  subst hv27
  clear hcase20
  replace H := oElimS H
  have qA := Stp.more hO AP hN19
  dsimp only [List.cons_append, List.nil_append] at qA
  replace hO := qA.own
  replace ah := ah.ch qA.ch
  replace ae := ae.ch qA.ch
  replace ad := ad.ch qA.ch
  replace ai := ai.ch qA.ch
  replace af := af.ch qA.ch
  replace ag := ag.ch qA.ch
  replace hB := hB.trans qA.fr
  replace b5 := b5.ch (Ch.assoc _ _ _ _)
  dsimp only [List.cons_append, List.nil_append] at b5
  replace bO := bO.ch (Ch.assoc _ _ _ _)
  dsimp only [List.cons_append, List.nil_append] at bO
  replace bM := bM.ch (Ch.assoc _ _ _ _)
  dsimp only [List.cons_append, List.nil_append] at bM
  replace b9 := b9.ch (Ch.assoc _ _ _ _)
  dsimp only [List.cons_append, List.nil_append] at b9
  replace bB := bB.ch (Ch.assoc _ _ _ _)
  dsimp only [List.cons_append, List.nil_append] at bB
  replace bX := bX.ch (Ch.assoc _ _ _ _)
  dsimp only [List.cons_append, List.nil_append] at bX
  replace cJ := cJ.ch (Ch.assoc _ _ _ _)
  dsimp only [List.cons_append, List.nil_append] at cJ
  replace cw := cw.ch (Ch.assoc _ _ _ _)
  dsimp only [List.cons_append, List.nil_append] at cw
  replace b8 := b8.ch (Ch.assoc _ _ _ _)
  dsimp only [List.cons_append, List.nil_append] at b8
  refine GoR.op ((op_move rfl) _) rfl rfl ?_
  refine GoR.op ((op_extract rfl rfl) _) rfl rfl ?_
  refine GoR.op ((op_extract rfl rfl) _) rfl rfl ?_
  refine GoR.op ((op_assign rfl) _) rfl rfl ?_
  refine GoR.op ((op_assign rfl) _) rfl rfl ?_
  refine GoR.nil ?_
  refine Go1.seq ?_
  refine Go1.region ?_
  refine GoR.op ((op_move rfl) _) rfl rfl ?_
  refine GoR.op ((op_move rfl) _) rfl rfl ?_
  refine GoR.op ((op_move rfl) _) rfl rfl ?_
  cases r15
  ·replace H := ifn Bool.false_ne_true H
   refine GoR.pass rfl rfl ?_
   refine GoR.pass rfl rfl ?_
   refine GoR.op ((op_pickF rfl rfl rfl) _) rfl rfl ?_
   refine GoR.op ((op_assign rfl) _) rfl rfl ?_
   refine GoR.op ((op_assign rfl) _) rfl rfl ?_
   refine GoR.nil ?_
   refine Go1.ret2V Try.func57 rfl (show _ = .pointer (some ⟨dP, 0, none⟩) from rfl) (show _ = .bool false from rfl) ?_
   refine hR7 _ _ ?_
   refine GoR.op ((op_move rfl) _) rfl rfl ?_
   refine GoR.op ((op_extract rfl rfl) _) rfl rfl ?_
   refine GoR.op ((op_extract rfl rfl) _) rfl rfl ?_
   refine GoR.op ((op_assign rfl) _) rfl rfl ?_
   refine GoR.op ((op_assign rfl) _) rfl rfl ?_
   refine GoR.nil ?_
   refine Go1.seq ?_
   refine Go1.seq ?_
   refine Go1.cut [(1, .string (gstr w_)), (5, .pointer (some ⟨dP, 0, none⟩)), (6, .bool false)] ⟨rfl, rfl, rfl, trivial⟩ ?_
   intro σ _
   refine Go1.region ?_
   refine GoR.op ((op_move rfl) _) rfl rfl ?_
   refine GoR.op ((op_not rfl) _) rfl rfl ?_
   refine GoR.op ((op_move rfl) _) rfl rfl ?_
   refine GoR.pass rfl rfl ?_
   refine GoR.pass rfl rfl ?_
   refine GoR.pass rfl rfl ?_
   refine GoR.pass rfl rfl ?_
   refine GoR.pass rfl rfl ?_
   refine GoR.pass rfl rfl ?_
   refine GoR.pass rfl rfl ?_
   refine GoR.pass rfl rfl ?_
   refine GoR.pass rfl rfl ?_
   refine GoR.op ((op_pickT rfl rfl rfl) _) rfl rfl ?_
   refine GoR.op ((op_move rfl) _) rfl rfl ?_
   refine GoR.pass rfl rfl ?_
   refine GoR.pass rfl rfl ?_
   refine GoR.pass rfl rfl ?_
   refine GoR.pass rfl rfl ?_
   refine GoR.pass rfl rfl ?_
   refine GoR.pass rfl rfl ?_
   refine GoR.pass rfl rfl ?_
   refine GoR.pass rfl rfl ?_
   refine GoR.pass rfl rfl ?_
   refine GoR.pass rfl rfl ?_
   refine GoR.op ((op_pickT rfl rfl rfl) _) rfl rfl ?_
   refine GoR.nil ?_
   refine Go1.condT rfl rfl ?_
   refine Go1.seq ?_
   refine Go1.cut [] trivial ?_
   intro σ _
   refine Go1.region ?_
   refine GoR.op ((op_assign rfl) _) rfl rfl ?_
   refine GoR.nil ?_
   refine Go1.ret1 Try.func30 rfl ?_
   exact ⟨(-1 : Int), rfl, hB.same, H⟩
  replace H := ifp rfl H
  refine GoR.op ((op_move rfl) _) rfl rfl ?_
  refine GoR.inl (vs := [.pointer (some ⟨dP, 0, none⟩)]) (caps := []) rfl rfl body50 Try.func50 rfl Try.ntmps50 rfl rfl rfl ?_
  intro RhR40 hR40
  refine Go1.seq ?_
  refine Go1.region ?_
  refine GoR.op ((op_assign rfl) _) rfl rfl ?_
  refine GoR.nil ?_
  refine Go1.seq ?_
  refine Go1.drawS 0 [(0, .pure), (1, .pure), (2, .pure), (3, .pure), (4, .stable), (5, .pure), (6, .pure), (7, .pure), (8, .pure), (9, .stable), (10, .pure), (11, .pure), (12, .pure)] mixed (by kernel_rfl) ?_
  intro w41 IQ
  have nV := Stp.same hO IQ
  replace b5 := b5.ch nV.ch
  replace bO := bO.ch nV.ch
  replace bM := bM.ch nV.ch
  replace b9 := b9.ch nV.ch
  replace bB := bB.ch nV.ch
  replace bX := bX.ch nV.ch
  replace cJ := cJ.ch nV.ch
  replace cw := cw.ch nV.ch
  replace b8 := b8.ch nV.ch
  replace hO := nV.own
  replace ah := ah.ch nV.ch
  replace ae := ae.ch nV.ch
  replace ad := ad.ch nV.ch
  replace ai := ai.ch nV.ch
  replace af := af.ch nV.ch
  replace ag := ag.ch nV.ch
  replace hB := hB.trans nV.fr
  refine GoQ.pure rfl (op_move rfl) rfl rfl ?_
  refine GoQ.pure rfl (op_nilCheck rfl) rfl rfl ?_
  refine GoQ.pure rfl (op_fieldAddr Try.underlying72 rfl ti29 rfl (by decide)) rfl rfl ?_
  refine GoQ.pure rfl (op_fieldAddr Try.underlying29 rfl ti3 rfl (by decide)) rfl rfl ?_
  refine GoQ.stable rfl (oblk (i := 8) 0 hO rfl rfl Try.underlying3 rfl rfl) rfl rfl ?_
  refine GoQ.pure rfl (op_move rfl) rfl rfl ?_
  refine GoQ.pure rfl (op_nilCheck rfl) rfl rfl ?_
  refine GoQ.pure rfl (op_fieldAddr Try.underlying72 rfl ti29 rfl (by decide)) rfl rfl ?_
  refine GoQ.pure rfl (op_fieldAddr Try.underlying29 rfl ti22 rfl (by decide)) rfl rfl ?_
  refine GoQ.stable rfl (oblk (i := 3) 0 hO rfl rfl Try.underlying22 rfl rfl) rfl rfl ?_
  refine GoQ.pure rfl (op_lenN Try.underlying22 rfl (bO.neq hO 2 rfl)) rfl rfl ?_
  by_cases h44 : r14.Enum.Done = (r14.Enum.Elems.length : Int)
  ·replace H := ifp h44 H
   refine GoQ.pure rfl (fun w => opB (op_eql rfl rfl w) (decide_eq_true h44)) rfl rfl ?_
   refine GoQ.pure rfl (op_assign rfl) rfl rfl ?_
   refine GoQ.nil ?_
   refine Go1.ret1V Try.func50 rfl (show _ = .bool true from rfl) ?_
   refine hR40 _ _ ?_
   refine GoR.op ((op_pickT rfl rfl rfl) _) rfl rfl ?_
   refine GoR.op ((op_assign rfl) _) rfl rfl ?_
   refine GoR.op ((op_assign rfl) _) rfl rfl ?_
   refine GoR.nil ?_
   refine Go1.ret2V Try.func57 rfl (show _ = .pointer (some ⟨dP, 0, none⟩) from rfl) (show _ = .bool true from rfl) ?_
   refine hR7 _ _ ?_
   refine GoR.op ((op_move rfl) _) rfl rfl ?_
   refine GoR.op ((op_extract rfl rfl) _) rfl rfl ?_
   refine GoR.op ((op_extract rfl rfl) _) rfl rfl ?_
   refine GoR.op ((op_assign rfl) _) rfl rfl ?_
   refine GoR.op ((op_assign rfl) _) rfl rfl ?_
   refine GoR.nil ?_
   refine Go1.seq ?_
   refine Go1.seq ?_
   refine Go1.cut [(1, .string (gstr w_)), (5, .pointer (some ⟨dP, 0, none⟩)), (6, .bool true)] ⟨rfl, rfl, rfl, trivial⟩ ?_
   intro σ _
   refine Go1.region ?_
   refine GoR.op ((op_move rfl) _) rfl rfl ?_
   refine GoR.op ((op_not rfl) _) rfl rfl ?_
   refine GoR.op ((op_move rfl) _) rfl rfl ?_
   refine GoR.op ((op_move rfl) _) rfl rfl ?_
   refine GoR.op ((op_move rfl) _) rfl rfl ?_
   refine GoR.op ((op_nilCheck rfl) _) rfl rfl ?_
   refine GoR.op ((op_fieldAddr Try.underlying72 rfl ti29 rfl (by decide)) _) rfl rfl ?_
   refine GoR.op ((op_fieldAddr Try.underlying29 rfl ti22 rfl (by decide)) _) rfl rfl ?_
   refine GoR.op ((oblk (i := 2) 0 hO rfl rfl Try.underlying22 rfl rfl) _ (Same.refl _)) rfl rfl ?_
   refine GoR.op ((op_lenN Try.underlying22 rfl (b5.neq hO 1 rfl)) _) rfl rfl ?_
   refine GoR.call (op_call body58 rfl (walk_word_Valid hO.lt nD H)) rfl rfl ?_
   rintro v49 w46 ⟨r45, rfl, IR, H⟩
   have nW := Stp.same hO IR
   replace b5 := b5.ch nW.ch
   replace bO := bO.ch nW.ch
   replace bM := bM.ch nW.ch
   replace b9 := b9.ch nW.ch
   replace bB := bB.ch nW.ch
   replace bX := bX.ch nW.ch
   replace cJ := cJ.ch nW.ch
   replace cw := cw.ch nW.ch
   replace b8 := b8.ch nW.ch
   replace hO := nW.own
   replace ah := ah.ch nW.ch
   replace ae := ae.ch nW.ch
   replace ad := ad.ch nW.ch
   replace ai := ai.ch nW.ch
   replace af := af.ch nW.ch
   replace ag := ag.ch nW.ch
   replace hB := hB.trans nW.fr
   cases r45
   ·replace H := ifn Bool.false_ne_true H
    refine GoR.op ((op_not rfl) _) rfl rfl ?_
    refine GoR.op ((op_pickF rfl rfl rfl) _) rfl rfl ?_
    refine GoR.op ((op_move rfl) _) rfl rfl ?_
    refine GoR.pass rfl rfl ?_
    refine GoR.pass rfl rfl ?_
    refine GoR.pass rfl rfl ?_
    refine GoR.pass rfl rfl ?_
    refine GoR.pass rfl rfl ?_
    refine GoR.pass rfl rfl ?_
    refine GoR.pass rfl rfl ?_
    refine GoR.pass rfl rfl ?_
    refine GoR.pass rfl rfl ?_
    refine GoR.pass rfl rfl ?_
    refine GoR.op ((op_pickT rfl rfl rfl) _) rfl rfl ?_
    refine GoR.nil ?_
    refine Go1.condT rfl rfl ?_
    refine Go1.seq ?_
    refine Go1.cut [] trivial ?_
    intro σ _
    refine Go1.region ?_
    refine GoR.op ((op_assign rfl) _) rfl rfl ?_
    refine GoR.nil ?_
    refine Go1.ret1 Try.func30 rfl ?_
    exact ⟨(-1 : Int), rfl, hB.same, H⟩
   replace H := ifp rfl H
   refine GoR.op ((op_not rfl) _) rfl rfl ?_
   refine GoR.op ((op_pickF rfl rfl rfl) _) rfl rfl ?_
   refine GoR.op ((op_move rfl) _) rfl rfl ?_
   refine GoR.op ((op_move rfl) _) rfl rfl ?_
   by_cases h51 : w_ = (([] : Str))
   ·replace H := ifp h51 H
    refine GoR.op ((fun w => opB (op_eqlS rfl rfl w) (decide_eq_true h51)) _) rfl rfl ?_
    refine GoR.op ((op_move rfl) _) rfl rfl ?_
    refine GoR.op ((op_move rfl) _) rfl rfl ?_
    refine GoR.op ((op_nilCheck rfl) _) rfl rfl ?_
    refine GoR.op ((op_fieldAddr Try.underlying72 rfl ti29 rfl (by decide)) _) rfl rfl ?_
    refine GoR.op ((op_fieldAddr Try.underlying29 rfl ti4 rfl (by decide)) _) rfl rfl ?_
    by_cases h52 : r14.Enum.Monoid = true
    ·replace H := ifp h52 H
     refine GoR.op (opB ((oblk (i := 1) 0 hO rfl rfl Try.underlying4 rfl rfl) _ (Same.refl _)) (h52)) rfl rfl ?_
     refine GoR.op ((op_not rfl) _) rfl rfl ?_
     refine GoR.op ((op_pickT rfl rfl rfl) _) rfl rfl ?_
     refine GoR.op ((op_pickF rfl rfl rfl) _) rfl rfl ?_
     refine GoR.nil ?_
     refine Go1.condF rfl rfl ?_
     refine Go1.skip ?_
     refine Go1.seq ?_
     refine Go1.region ?_
     refine GoR.op ((op_move rfl) _) rfl rfl ?_
     refine GoR.op ((op_move rfl) _) rfl rfl ?_
     refine GoR.inl (vs := [.pointer (some ⟨dP, 0, none⟩), .int .i64 (-1 : Int), .string (gstr w_)]) (caps := []) rfl rfl body59 Try.func59 rfl Try.ntmps59 rfl rfl rfl ?_
     intro RhR53 hR53
     refine Go1.seq ?_
     refine Go1.region ?_
     refine GoR.op ((op_assign rfl) _) rfl rfl ?_
     refine GoR.nil ?_
     refine Go1.seq ?_
     refine Go1.seq ?_
     refine Go1.cut [(0, .pointer (some ⟨dP, 0, none⟩)), (1, .int .i64 (-1 : Int)), (2, .string (gstr w_))] ⟨rfl, rfl, rfl, trivial⟩ ?_
     intro σ _
     refine Go1.region ?_
     refine GoR.op ((op_move rfl) _) rfl rfl ?_
     by_cases h54 : (-1 : Int) = (-1 : Int)
     ·replace H := ifp h54 H
      refine GoR.op ((fun w => opB (op_eql rfl rfl w) (decide_eq_true h54)) _) rfl rfl ?_
      refine GoR.op ((op_move rfl) _) rfl rfl ?_
      refine GoR.op ((op_move rfl) _) rfl rfl ?_
      refine GoR.op ((fun w => opB (op_eqlS rfl rfl w) (decide_eq_true h51)) _) rfl rfl ?_
      refine GoR.op ((op_pickT rfl rfl rfl) _) rfl rfl ?_
      refine GoR.nil ?_
      refine Go1.condT rfl rfl ?_
      refine Go1.seq ?_
      refine Go1.region ?_
      refine GoR.op ((op_assign rfl) _) rfl rfl ?_
      refine GoR.nil ?_
      refine Go1.ret1V Try.func59 rfl (show _ = .int .i64 (0 : Int) from rfl) ?_
      refine hR53 _ _ ?_
      refine GoR.op ((op_assign rfl) _) rfl rfl ?_
      refine GoR.nil ?_
      refine Go1.ret1 Try.func30 rfl ?_
      exact ⟨(0 : Int), rfl, hB.same, H⟩
     replace H := ifn h54 H
     refine GoR.op ((fun w => opB (op_eql rfl rfl w) (decide_eq_false h54)) _) rfl rfl ?_
     refine GoR.op ((op_move rfl) _) rfl rfl ?_
     refine GoR.pass rfl rfl ?_
     refine GoR.pass rfl rfl ?_
     refine GoR.op ((op_pickF rfl rfl rfl) _) rfl rfl ?_
     refine GoR.nil ?_
     refine Go1.condF rfl rfl ?_
     refine Go1.skip ?_
     refine Go1.seq ?_
     refine Go1.seq ?_
     refine Go1.region ?_
     refine GoR.op ((op_move rfl) _) rfl rfl ?_
     refine GoR.op ((op_lenS Try.underlying9 rfl) _) rfl rfl ?_
     replace H := H nD
     refine GoR.op ((op_move rfl) _) rfl rfl ?_
     refine GoR.nil ?_
     refine Go1.block ?_
     replace ah := ah.ch (Owns.dropCh _ _ 11)
     replace ae := ae.ch (Owns.dropCh _ _ 11)
     replace ad := ad.ch (Owns.dropCh _ _ 11)
     replace ai := ai.ch (Owns.dropCh _ _ 11)
     replace af := af.ch (Owns.dropCh _ _ 11)
     replace ag := ag.ch (Owns.dropCh _ _ 11)
     replace b5 := b5.ch (Owns.dropCh _ _ 11)
     replace bO := bO.ch (Owns.dropCh _ _ 11)
     replace bM := bM.ch (Owns.dropCh _ _ 11)
     replace b9 := b9.ch (Owns.dropCh _ _ 11)
     replace bB := bB.ch (Owns.dropCh _ _ 11)
     replace bX := bX.ch (Owns.dropCh _ _ 11)
     replace cJ := cJ.ch (Owns.dropCh _ _ 11)
     replace cw := cw.ch (Owns.dropCh _ _ 11)
     replace b8 := b8.ch (Owns.dropCh _ _ 11)
     replace hB := hB.trans (Owns.dropFr _ _ 11)
     replace hO := hO.drop 11
     dsimp only [eS, eZ] at hB hO ah ae ad ai af ag b5 bO bM b9 bB bX cJ cw b8
     replace ah := ah.ch (Owns.dropCh _ _ 11)
     replace ae := ae.ch (Owns.dropCh _ _ 11)
     replace ad := ad.ch (Owns.dropCh _ _ 11)
     replace ai := ai.ch (Owns.dropCh _ _ 11)
     replace af := af.ch (Owns.dropCh _ _ 11)
     replace ag := ag.ch (Owns.dropCh _ _ 11)
     replace b5 := b5.ch (Owns.dropCh _ _ 11)
     replace bO := bO.ch (Owns.dropCh _ _ 11)
     replace bM := bM.ch (Owns.dropCh _ _ 11)
     replace b9 := b9.ch (Owns.dropCh _ _ 11)
     replace bB := bB.ch (Owns.dropCh _ _ 11)
     replace bX := bX.ch (Owns.dropCh _ _ 11)
     replace cJ := cJ.ch (Owns.dropCh _ _ 11)
     replace cw := cw.ch (Owns.dropCh _ _ 11)
     replace b8 := b8.ch (Owns.dropCh _ _ 11)
     replace hB := hB.trans (Owns.dropFr _ _ 11)
     replace hO := hO.drop 11
     dsimp only [eS, eZ] at hB hO ah ae ad ai af ag b5 bO bM b9 bB bX cJ cw b8
     refine Go1.loopW (S := Int × Nat) (fun s σ w => match s with | (i1_56, k1_57) => agrees σ [(0, .pointer (some ⟨dP, 0, none⟩)), (1, .int .i64 i1_56), (2, .string (gstr w_)), (15, .int .i64 (w_.length : Int)), (16, .int .i64 (k1_57 : Int))] ∧ Owns w0.heap.size w [.blk dP (.cells #[.int .i64 r14.Enum.Points, .bool r14.Enum.Monoid, .slice aG aF aH, .slice aw av ax, .slice al ak am, .slice aJ aI aK, .slice az ay aA, .slice aC aB aD, .int .i64 r14.Enum.Done, .map (some bt), .slice bH bG bI, .slice bv bu bw, .slice bz bx bA] 72 (0, 0)), .row 26 1 aG aF aH cd, .row 26 1 aw av ax bY, .row 3 1 al ak am bN, .row 3 1 aJ aI aK ce, .row 26 1 az ay aA bZ, .row 39 2 aC aB aD b4, .row 9 1 bH bG bI cP, .row 3 1 bv bu bw cy, .row 3 1 bz bx bA cz, .any (mapE (fun a : List UInt8 => Value.string (gstr a)) (fun a : Int => Value.int .i64 a) bt r14.number)] A ∧ Els (Rp.sl (Rp.int .i64)) (bl [.blk dP (.cells #[.int .i64 r14.Enum.Points, .bool r14.Enum.Monoid, .slice aG aF aH, .slice aw av ax, .slice al ak am, .slice aJ aI aK, .slice az ay aA, .slice aC aB aD, .int .i64 r14.Enum.Done, .map (some bt), .slice bH bG bI, .slice bv bu bw, .slice bz bx bA] 72 (0, 0)), .row 26 1 aG aF aH cd, .row 26 1 aw av ax bY, .row 3 1 al ak am bN, .row 3 1 aJ aI aK ce, .row 26 1 az ay aA bZ, .row 39 2 aC aB aD b4, .row 9 1 bH bG bI cP, .row 3 1 bv bu bw cy, .row 3 1 bz bx bA cz, .any (mapE (fun a : List UInt8 => Value.string (gstr a)) (fun a : Int => Value.int .i64 a) bt r14.number)] ++ A) w cd r14.Enum.Gens ∧ Els (Rp.sl (Rp.int .i64)) (bl [.blk dP (.cells #[.int .i64 r14.Enum.Points, .bool r14.Enum.Monoid, .slice aG aF aH, .slice aw av ax, .slice al ak am, .slice aJ aI aK, .slice az ay aA, .slice aC aB aD, .int .i64 r14.Enum.Done, .map (some bt), .slice bH bG bI, .slice bv bu bw, .slice bz bx bA] 72 (0, 0)), .row 26 1 aG aF aH cd, .row 26 1 aw av ax bY, .row 3 1 al ak am bN, .row 3 1 aJ aI aK ce, .row 26 1 az ay aA bZ, .row 39 2 aC aB aD b4, .row 9 1 bH bG bI cP, .row 3 1 bv bu bw cy, .row 3 1 bz bx bA cz, .any (mapE (fun a : List UInt8 => Value.string (gstr a)) (fun a : Int => Value.int .i64 a) bt r14.number)] ++ A) w bY r14.Enum.Elems ∧ Els (Rp.int .i64) (bl [.blk dP (.cells #[.int .i64 r14.Enum.Points, .bool r14.Enum.Monoid, .slice aG aF aH, .slice aw av ax, .slice al ak am, .slice aJ aI aK, .slice az ay aA, .slice aC aB aD, .int .i64 r14.Enum.Done, .map (some bt), .slice bH bG bI, .slice bv bu bw, .slice bz bx bA] 72 (0, 0)), .row 26 1 aG aF aH cd, .row 26 1 aw av ax bY, .row 3 1 al ak am bN, .row 3 1 aJ aI aK ce, .row 26 1 az ay aA bZ, .row 39 2 aC aB aD b4, .row 9 1 bH bG bI cP, .row 3 1 bv bu bw cy, .row 3 1 bz bx bA cz, .any (mapE (fun a : List UInt8 => Value.string (gstr a)) (fun a : Int => Value.int .i64 a) bt r14.number)] ++ A) w bN r14.Enum.Prefix ∧ Els (Rp.int .i64) (bl [.blk dP (.cells #[.int .i64 r14.Enum.Points, .bool r14.Enum.Monoid, .slice aG aF aH, .slice aw av ax, .slice al ak am, .slice aJ aI aK, .slice az ay aA, .slice aC aB aD, .int .i64 r14.Enum.Done, .map (some bt), .slice bH bG bI, .slice bv bu bw, .slice bz bx bA] 72 (0, 0)), .row 26 1 aG aF aH cd, .row 26 1 aw av ax bY, .row 3 1 al ak am bN, .row 3 1 aJ aI aK ce, .row 26 1 az ay aA bZ, .row 39 2 aC aB aD b4, .row 9 1 bH bG bI cP, .row 3 1 bv bu bw cy, .row 3 1 bz bx bA cz, .any (mapE (fun a : List UInt8 => Value.string (gstr a)) (fun a : Int => Value.int .i64 a) bt r14.number)] ++ A) w ce r14.Enum.Last ∧ Els (Rp.sl (Rp.int .i64)) (bl [.blk dP (.cells #[.int .i64 r14.Enum.Points, .bool r14.Enum.Monoid, .slice aG aF aH, .slice aw av ax, .slice al ak am, .slice aJ aI aK, .slice az ay aA, .slice aC aB aD, .int .i64 r14.Enum.Done, .map (some bt), .slice bH bG bI, .slice bv bu bw, .slice bz bx bA] 72 (0, 0)), .row 26 1 aG aF aH cd, .row 26 1 aw av ax bY, .row 3 1 al ak am bN, .row 3 1 aJ aI aK ce, .row 26 1 az ay aA bZ, .row 39 2 aC aB aD b4, .row 9 1 bH bG bI cP, .row 3 1 bv bu bw cy, .row 3 1 bz bx bA cz, .any (mapE (fun a : List UInt8 => Value.string (gstr a)) (fun a : Int => Value.int .i64 a) bt r14.number)] ++ A) w bZ r14.Enum.Right ∧ Els (rpRule) (bl [.blk dP (.cells #[.int .i64 r14.Enum.Points, .bool r14.Enum.Monoid, .slice aG aF aH, .slice aw av ax, .slice al ak am, .slice aJ aI aK, .slice az ay aA, .slice aC aB aD, .int .i64 r14.Enum.Done, .map (some bt), .slice bH bG bI, .slice bv bu bw, .slice bz bx bA] 72 (0, 0)), .row 26 1 aG aF aH cd, .row 26 1 aw av ax bY, .row 3 1 al ak am bN, .row 3 1 aJ aI aK ce, .row 26 1 az ay aA bZ, .row 39 2 aC aB aD b4, .row 9 1 bH bG bI cP, .row 3 1 bv bu bw cy, .row 3 1 bz bx bA cz, .any (mapE (fun a : List UInt8 => Value.string (gstr a)) (fun a : Int => Value.int .i64 a) bt r14.number)] ++ A) w b4 r14.Enum.Rules ∧ Els (Rp.str) (bl [.blk dP (.cells #[.int .i64 r14.Enum.Points, .bool r14.Enum.Monoid, .slice aG aF aH, .slice aw av ax, .slice al ak am, .slice aJ aI aK, .slice az ay aA, .slice aC aB aD, .int .i64 r14.Enum.Done, .map (some bt), .slice bH bG bI, .slice bv bu bw, .slice bz bx bA] 72 (0, 0)), .row 26 1 aG aF aH cd, .row 26 1 aw av ax bY, .row 3 1 al ak am bN, .row 3 1 aJ aI aK ce, .row 26 1 az ay aA bZ, .row 39 2 aC aB aD b4, .row 9 1 bH bG bI cP, .row 3 1 bv bu bw cy, .row 3 1 bz bx bA cz, .any (mapE (fun a : List UInt8 => Value.string (gstr a)) (fun a : Int => Value.int .i64 a) bt r14.number)] ++ A) w cP r14.words ∧ Els (Rp.int .i64) (bl [.blk dP (.cells #[.int .i64 r14.Enum.Points, .bool r14.Enum.Monoid, .slice aG aF aH, .slice aw av ax, .slice al ak am, .slice aJ aI aK, .slice az ay aA, .slice aC aB aD, .int .i64 r14.Enum.Done, .map (some bt), .slice bH bG bI, .slice bv bu bw, .slice bz bx bA] 72 (0, 0)), .row 26 1 aG aF aH cd, .row 26 1 aw av ax bY, .row 3 1 al ak am bN, .row 3 1 aJ aI aK ce, .row 26 1 az ay aA bZ, .row 39 2 aC aB aD b4, .row 9 1 bH bG bI cP, .row 3 1 bv bu bw cy, .row 3 1 bz bx bA cz, .any (mapE (fun a : List UInt8 => Value.string (gstr a)) (fun a : Int => Value.int .i64 a) bt r14.number)] ++ A) w cy r14.behind ∧ Els (Rp.int .i64) (bl [.blk dP (.cells #[.int .i64 r14.Enum.Points, .bool r14.Enum.Monoid, .slice aG aF aH, .slice aw av ax, .slice al ak am, .slice aJ aI aK, .slice az ay aA, .slice aC aB aD, .int .i64 r14.Enum.Done, .map (some bt), .slice bH bG bI, .slice bv bu bw, .slice bz bx bA] 72 (0, 0)), .row 26 1 aG aF aH cd, .row 26 1 aw av ax bY, .row 3 1 al ak am bN, .row 3 1 aJ aI aK ce, .row 26 1 az ay aA bZ, .row 39 2 aC aB aD b4, .row 9 1 bH bG bI cP, .row 3 1 bv bu bw cy, .row 3 1 bz bx bA cz, .any (mapE (fun a : List UInt8 => Value.string (gstr a)) (fun a : Int => Value.int .i64 a) bt r14.number)] ++ A) w cz r14.single ∧ Fr (bl []) w0 (bl [.blk dP (.cells #[.int .i64 r14.Enum.Points, .bool r14.Enum.Monoid, .slice aG aF aH, .slice aw av ax, .slice al ak am, .slice aJ aI aK, .slice az ay aA, .slice aC aB aD, .int .i64 r14.Enum.Done, .map (some bt), .slice bH bG bI, .slice bv bu bw, .slice bz bx bA] 72 (0, 0)), .row 26 1 aG aF aH cd, .row 26 1 aw av ax bY, .row 3 1 al ak am bN, .row 3 1 aJ aI aK ce, .row 26 1 az ay aA bZ, .row 39 2 aC aB aD b4, .row 9 1 bH bG bI cP, .row 3 1 bv bu bw cy, .row 3 1 bz bx bA cz, .any (mapE (fun a : List UInt8 => Value.string (gstr a)) (fun a : Int => Value.int .i64 a) bt r14.number)]) w) H ⟨⟨rfl, rfl, rfl, rfl, rfl, trivial⟩, hO, b5, bO, bM, b9, bB, bX, cJ, cw, b8, hB⟩ ?_
     intro X1
     refine prE fun i1_56 => fun k1_57 => ?_
     intro H hX1 σ w55
     refine andE fun hag => andE fun hO => andE fun b5 => andE fun bO => andE fun bM => andE fun b9 => andE fun bB => andE fun bX => andE fun cJ => andE fun cw => andE fun b8 => fun hB => ?_
     dsimp only at H
     refine Go1.keep [(0, .pointer (some ⟨dP, 0, none⟩)), (1, .int .i64 i1_56), (2, .string (gstr w_)), (15, .int .i64 (w_.length : Int)), (16, .int .i64 (k1_57 : Int))] hag ?_
     refine Go1.seq ?_
     refine Go1.region ?_
     by_cases h58 : (k1_57 : Int) < (w_.length : Int)
     ·replace H := ifp h58 H
      refine GoR.op ((fun w => opB (op_lss rfl rfl w) (decide_eq_true h58)) _) rfl rfl ?_
      refine GoR.nil ?_
      refine Go1.seq ?_
      refine Go1.condT rfl rfl ?_
      refine Go1.skip ?_
      refine Go1.seq ?_
      refine Go1.block ?_
      refine Go1.seq ?_
      refine Go1.region ?_
      refine GoR.op ((op_move rfl) _) rfl rfl ?_
      refine GoR.op ((op_assign rfl) _) rfl rfl ?_
      refine GoR.nil ?_
      refine Go1.region ?_
      refine GoR.op ((op_move rfl) _) rfl rfl ?_
      refine GoR.op ((op_move rfl) _) rfl rfl ?_
      refine GoR.op ((op_move rfl) _) rfl rfl ?_
      refine GoR.op ((op_move rfl) _) rfl rfl ?_
      obtain ⟨h59, H⟩ := H
      obtain ⟨h60, H⟩ := H
      refine GoR.op ((op_indexS Try.underlying9 rfl rfl h59 h60) _) rfl rfl ?_
      refine GoR.op ((op_sub rfl rfl rfl) _) rfl rfl ?_
      refine GoR.op ((op_conv Try.underlying5 Try.underlying3 rfl rfl) _) rfl rfl ?_
      refine GoR.inl (vs := [.pointer (some ⟨dP, 0, none⟩), .int .i64 i1_56, .int .i64 (IntKind.i64.wrap (IntKind.u8.wrap (((ix w_ (k1_57 : Int)).toNat : Int) - (97 : Int))))]) (caps := []) rfl rfl body66 Try.func66 rfl Try.ntmps66 rfl rfl rfl ?_
      intro RhR61 hR61
      refine Go1.seq ?_
      refine Go1.region ?_
      refine GoR.op ((op_assign rfl) _) rfl rfl ?_
      refine GoR.nil ?_
      refine Go1.seq ?_
      refine Go1.seq ?_
      refine Go1.region ?_
      refine GoR.op ((op_move rfl) _) rfl rfl ?_
      by_cases h62 : i1_56 = (-1 : Int)
      ·replace H := ifp h62 H
       refine GoR.op ((fun w => opB (op_eql rfl rfl w) (decide_eq_true h62)) _) rfl rfl ?_
       refine GoR.nil ?_
       refine Go1.condT rfl rfl ?_
       refine Go1.seq ?_
       refine Go1.region ?_
       refine GoR.op ((op_move rfl) _) rfl rfl ?_
       refine GoR.op ((op_nilCheck rfl) _) rfl rfl ?_
       refine GoR.op ((op_fieldAddr Try.underlying72 rfl ti26 rfl (by decide)) _) rfl rfl ?_
       refine GoR.op ((oblk (i := 12) 0 hO rfl rfl Try.underlying26 rfl rfl) _ (Same.refl _)) rfl rfl ?_
       refine GoR.op ((op_move rfl) _) rfl rfl ?_
       obtain ⟨h63, H⟩ := H
       obtain ⟨h64, H⟩ := H
       refine GoR.op ((op_index Try.underlying26 ti3 rfl rfl h63 (ltn (b8.neq hO 9 rfl) h64) (b8.psome hO 9 rfl h63 h64)) _) rfl rfl ?_
       refine GoR.op ((oldInt 9 hO rfl b8 h63 h64 Try.underlying3 rfl rfl) _ (Same.refl _)) rfl rfl ?_
       refine GoR.op ((op_assign rfl) _) rfl rfl ?_
       refine GoR.nil ?_
       refine Go1.ret1V Try.func66 rfl (show _ = .int .i64 (ix r14.single (IntKind.i64.wrap (IntKind.u8.wrap (((ix w_ (k1_57 : Int)).toNat : Int) - (97 : Int))))) from rfl) ?_
       refine hR61 _ _ ?_
       refine GoR.op ((op_assign rfl) _) rfl rfl ?_
       refine GoR.nil ?_
       refine Go1.inBlock ?_
       refine Go1.cut [(0, .pointer (some ⟨dP, 0, none⟩)), (1, .int .i64 (ix r14.single (IntKind.i64.wrap (IntKind.u8.wrap (((ix w_ (k1_57 : Int)).toNat : Int) - (97 : Int)))))), (2, .string (gstr w_)), (15, .int .i64 (w_.length : Int)), (16, .int .i64 (k1_57 : Int))] ⟨rfl, rfl, rfl, rfl, rfl, trivial⟩ ?_
       intro σ _
       refine Go1.region ?_
       refine GoR.op ((op_add rfl rfl (wrap_i64 (natbd h58 nD))) _) rfl rfl ?_
       refine GoR.op ((op_move rfl) _) rfl rfl ?_
       refine GoR.nil ?_
       exact hX1 _ H _ _ ⟨⟨rfl, rfl, rfl, rfl, rfl, trivial⟩, hO, b5, bO, bM, b9, bB, bX, cJ, cw, b8, hB⟩
      replace H := ifn h62 H
      refine GoR.op ((fun w => opB (op_eql rfl rfl w) (decide_eq_false h62)) _) rfl rfl ?_
      refine GoR.nil ?_
      refine Go1.condF rfl rfl ?_
      refine Go1.skip ?_
      refine Go1.seq ?_
      refine Go1.region ?_
      refine GoR.op ((op_move rfl) _) rfl rfl ?_
      refine GoR.op ((op_nilCheck rfl) _) rfl rfl ?_
      refine GoR.op ((op_fieldAddr Try.underlying72 rfl ti29 rfl (by decide)) _) rfl rfl ?_
      refine GoR.op ((op_fieldAddr Try.underlying29 rfl ti22 rfl (by decide)) _) rfl rfl ?_
      refine GoR.op ((oblk (i := 6) 0 hO rfl rfl Try.underlying22 rfl rfl) _ (Same.refl _)) rfl rfl ?_
      refine GoR.op ((op_move rfl) _) rfl rfl ?_
      obtain ⟨h65, H⟩ := H
      obtain ⟨h66, H⟩ := H
      refine GoR.op ((op_index Try.underlying22 ti26 rfl rfl h65 (ltn (bB.neq hO 5 rfl) h66) (bB.psome hO 5 rfl h65 h66)) _) rfl rfl ?_
      have hobt := oldSl 5 hO rfl bB h65 h66
      obtain ⟨p67, c68, Dq, IS⟩ := hobt
      refine GoR.op ((IS Try.underlying26 rfl rfl) _ (Same.refl _)) rfl rfl ?_
      refine GoR.op ((op_move rfl) _) rfl rfl ?_
      obtain ⟨h71, H⟩ := H
      obtain ⟨h72, H⟩ := H
      refine GoR.op ((op_index Try.underlying26 ti3 rfl rfl h71 h72 (Dq.some_ h71 h72)) _) rfl rfl ?_
      refine GoR.op ((ldInt Dq h71 h72 Try.underlying3 rfl rfl) _ (Same.refl _)) rfl rfl ?_
      refine GoR.op ((op_assign rfl) _) rfl rfl ?_
      refine GoR.nil ?_
      refine Go1.ret1V Try.func66 rfl (show _ = .int .i64 (ix (ix r14.Enum.Right i1_56) (IntKind.i64.wrap (IntKind.u8.wrap (((ix w_ (k1_57 : Int)).toNat : Int) - (97 : Int))))) from rfl) ?_
      refine hR61 _ _ ?_
      refine GoR.op ((op_assign rfl) _) rfl rfl ?_
      refine GoR.nil ?_
      refine Go1.inBlock ?_
      refine Go1.region ?_
      refine GoR.op ((op_add rfl rfl (wrap_i64 (natbd h58 nD))) _) rfl rfl ?_
      refine GoR.op ((op_move rfl) _) rfl rfl ?_
      refine GoR.nil ?_
      exact hX1 _ H _ _ ⟨⟨rfl, rfl, rfl, rfl, rfl, trivial⟩, hO, b5, bO, bM, b9, bB, bX, cJ, cw, b8, hB⟩
     replace H := ifn h58 H
     refine GoR.op ((fun w => opB (op_lss rfl rfl w) (decide_eq_false h58)) _) rfl rfl ?_
     refine GoR.nil ?_
     refine Go1.seq ?_
     refine Go1.condF rfl rfl ?_
     refine Go1.exit rfl ?_
     refine Go1.seq ?_
     refine Go1.region ?_
     refine GoR.op ((op_move rfl) _) rfl rfl ?_
     refine GoR.op ((op_assign rfl) _) rfl rfl ?_
     refine GoR.nil ?_
     refine Go1.ret1V Try.func59 rfl (show _ = .int .i64 i1_56 from rfl) ?_
     refine hR53 _ _ ?_
     refine GoR.op ((op_assign rfl) _) rfl rfl ?_
     refine GoR.nil ?_
     refine Go1.ret1 Try.func30 rfl ?_
     exact ⟨i1_56, rfl, hB.same, H⟩
    replace H := ifn h52 H
    refine GoR.op (opB ((oblk (i := 1) 0 hO rfl rfl Try.underlying4 rfl rfl) _ (Same.refl _)) (Bool.eq_false_iff.2 h52)) rfl rfl ?_
    refine GoR.op ((op_not rfl) _) rfl rfl ?_
    refine GoR.op ((op_pickT rfl rfl rfl) _) rfl rfl ?_
    refine GoR.op ((op_pickF rfl rfl rfl) _) rfl rfl ?_
    refine GoR.nil ?_
    refine Go1.condT rfl rfl ?_
    refine Go1.seq ?_
    refine Go1.cut [] trivial ?_
    intro σ _
    refine Go1.region ?_
    refine GoR.op ((op_assign rfl) _) rfl rfl ?_
    refine GoR.nil ?_
    refine Go1.ret1 Try.func30 rfl ?_
    exact ⟨(-1 : Int), rfl, hB.same, H⟩
   replace H := ifn h51 H
   refine GoR.op ((fun w => opB (op_eqlS rfl rfl w) (decide_eq_false h51)) _) rfl rfl ?_
   refine GoR.op ((op_move rfl) _) rfl rfl ?_
   refine GoR.pass rfl rfl ?_
   refine GoR.pass rfl rfl ?_
   refine GoR.pass rfl rfl ?_
   refine GoR.pass rfl rfl ?_
   refine GoR.pass rfl rfl ?_
   refine GoR.pass rfl rfl ?_
   refine GoR.op ((op_pickF rfl rfl rfl) _) rfl rfl ?_
   refine GoR.op ((op_pickF rfl rfl rfl) _) rfl rfl ?_
   refine GoR.nil ?_
   refine Go1.condF rfl rfl ?_
   refine Go1.skip ?_
   refine Go1.seq ?_
   refine Go1.region ?_
   refine GoR.op ((op_move rfl) _) rfl rfl ?_
   refine GoR.op ((op_move rfl) _) rfl rfl ?_
   refine GoR.inl (vs := [.pointer (some ⟨dP, 0, none⟩), .int .i64 (-1 : Int), .string (gstr w_)]) (caps := []) rfl rfl body59 Try.func59 rfl Try.ntmps59 rfl rfl rfl ?_
   intro RhR73 hR73
   refine Go1.seq ?_
   refine Go1.region ?_
   refine GoR.op ((op_assign rfl) _) rfl rfl ?_
   refine GoR.nil ?_
   refine Go1.seq ?_
   refine Go1.seq ?_
   refine Go1.region ?_
   refine GoR.op ((op_move rfl) _) rfl rfl ?_
   by_cases h74 : (-1 : Int) = (-1 : Int)
   ·replace H := ifp h74 H
    refine GoR.op ((fun w => opB (op_eql rfl rfl w) (decide_eq_true h74)) _) rfl rfl ?_
    refine GoR.op ((op_move rfl) _) rfl rfl ?_
    refine GoR.op ((op_move rfl) _) rfl rfl ?_
    refine GoR.op ((fun w => opB (op_eqlS rfl rfl w) (decide_eq_false h51)) _) rfl rfl ?_
    refine GoR.op ((op_pickT rfl rfl rfl) _) rfl rfl ?_
    refine GoR.nil ?_
    refine Go1.condF rfl rfl ?_
    refine Go1.skip ?_
    refine Go1.seq ?_
    refine Go1.seq ?_
    refine Go1.cut [(0, .pointer (some ⟨dP, 0, none⟩)), (1, .int .i64 (-1 : Int)), (2, .string (gstr w_))] ⟨rfl, rfl, rfl, trivial⟩ ?_
    intro σ _
    refine Go1.region ?_
    refine GoR.op ((op_move rfl) _) rfl rfl ?_
    refine GoR.op ((op_lenS Try.underlying9 rfl) _) rfl rfl ?_
    replace H := H nD
    refine GoR.op ((op_move rfl) _) rfl rfl ?_
    refine GoR.nil ?_
    refine Go1.block ?_
    replace ah := ah.ch (Owns.dropCh _ _ 11)
    replace ae := ae.ch (Owns.dropCh _ _ 11)
    replace ad := ad.ch (Owns.dropCh _ _ 11)
    replace ai := ai.ch (Owns.dropCh _ _ 11)
    replace af := af.ch (Owns.dropCh _ _ 11)
    replace ag := ag.ch (Owns.dropCh _ _ 11)
    replace b5 := b5.ch (Owns.dropCh _ _ 11)
    replace bO := bO.ch (Owns.dropCh _ _ 11)
    replace bM := bM.ch (Owns.dropCh _ _ 11)
    replace b9 := b9.ch (Owns.dropCh _ _ 11)
    replace bB := bB.ch (Owns.dropCh _ _ 11)
    replace bX := bX.ch (Owns.dropCh _ _ 11)
    replace cJ := cJ.ch (Owns.dropCh _ _ 11)
    replace cw := cw.ch (Owns.dropCh _ _ 11)
    replace b8 := b8.ch (Owns.dropCh _ _ 11)
    replace hB := hB.trans (Owns.dropFr _ _ 11)
    replace hO := hO.drop 11
    dsimp only [eS, eZ] at hB hO ah ae ad ai af ag b5 bO bM b9 bB bX cJ cw b8
    replace ah := ah.ch (Owns.dropCh _ _ 11)
    replace ae := ae.ch (Owns.dropCh _ _ 11)
    replace ad := ad.ch (Owns.dropCh _ _ 11)
    replace ai := ai.ch (Owns.dropCh _ _ 11)
    replace af := af.ch (Owns.dropCh _ _ 11)
    replace ag := ag.ch (Owns.dropCh _ _ 11)
    replace b5 := b5.ch (Owns.dropCh _ _ 11)
    replace bO := bO.ch (Owns.dropCh _ _ 11)
    replace bM := bM.ch (Owns.dropCh _ _ 11)
    replace b9 := b9.ch (Owns.dropCh _ _ 11)
    replace bB := bB.ch (Owns.dropCh _ _ 11)
    replace bX := bX.ch (Owns.dropCh _ _ 11)
    replace cJ := cJ.ch (Owns.dropCh _ _ 11)
    replace cw := cw.ch (Owns.dropCh _ _ 11)
    replace b8 := b8.ch (Owns.dropCh _ _ 11)
    replace hB := hB.trans (Owns.dropFr _ _ 11)
    replace hO := hO.drop 11
    dsimp only [eS, eZ] at hB hO ah ae ad ai af ag b5 bO bM b9 bB bX cJ cw b8
    refine Go1.loopW (S := Int × Nat) (fun s σ w => match s with | (i2_76, k2_77) => agrees σ [(0, .pointer (some ⟨dP, 0, none⟩)), (1, .int .i64 i2_76), (2, .string (gstr w_)), (15, .int .i64 (w_.length : Int)), (16, .int .i64 (k2_77 : Int))] ∧ Owns w0.heap.size w [.blk dP (.cells #[.int .i64 r14.Enum.Points, .bool r14.Enum.Monoid, .slice aG aF aH, .slice aw av ax, .slice al ak am, .slice aJ aI aK, .slice az ay aA, .slice aC aB aD, .int .i64 r14.Enum.Done, .map (some bt), .slice bH bG bI, .slice bv bu bw, .slice bz bx bA] 72 (0, 0)), .row 26 1 aG aF aH cd, .row 26 1 aw av ax bY, .row 3 1 al ak am bN, .row 3 1 aJ aI aK ce, .row 26 1 az ay aA bZ, .row 39 2 aC aB aD b4, .row 9 1 bH bG bI cP, .row 3 1 bv bu bw cy, .row 3 1 bz bx bA cz, .any (mapE (fun a : List UInt8 => Value.string (gstr a)) (fun a : Int => Value.int .i64 a) bt r14.number)] A ∧ Els (Rp.sl (Rp.int .i64)) (bl [.blk dP (.cells #[.int .i64 r14.Enum.Points, .bool r14.Enum.Monoid, .slice aG aF aH, .slice aw av ax, .slice al ak am, .slice aJ aI aK, .slice az ay aA, .slice aC aB aD, .int .i64 r14.Enum.Done, .map (some bt), .slice bH bG bI, .slice bv bu bw, .slice bz bx bA] 72 (0, 0)), .row 26 1 aG aF aH cd, .row 26 1 aw av ax bY, .row 3 1 al ak am bN, .row 3 1 aJ aI aK ce, .row 26 1 az ay aA bZ, .row 39 2 aC aB aD b4, .row 9 1 bH bG bI cP, .row 3 1 bv bu bw cy, .row 3 1 bz bx bA cz, .any (mapE (fun a : List UInt8 => Value.string (gstr a)) (fun a : Int => Value.int .i64 a) bt r14.number)] ++ A) w cd r14.Enum.Gens ∧ Els (Rp.sl (Rp.int .i64)) (bl [.blk dP (.cells #[.int .i64 r14.Enum.Points, .bool r14.Enum.Monoid, .slice aG aF aH, .slice aw av ax, .slice al ak am, .slice aJ aI aK, .slice az ay aA, .slice aC aB aD, .int .i64 r14.Enum.Done, .map (some bt), .slice bH bG bI, .slice bv bu bw, .slice bz bx bA] 72 (0, 0)), .row 26 1 aG aF aH cd, .row 26 1 aw av ax bY, .row 3 1 al ak am bN, .row 3 1 aJ aI aK ce, .row 26 1 az ay aA bZ, .row 39 2 aC aB aD b4, .row 9 1 bH bG bI cP, .row 3 1 bv bu bw cy, .row 3 1 bz bx bA cz, .any (mapE (fun a : List UInt8 => Value.string (gstr a)) (fun a : Int => Value.int .i64 a) bt r14.number)] ++ A) w bY r14.Enum.Elems ∧ Els (Rp.int .i64) (bl [.blk dP (.cells #[.int .i64 r14.Enum.Points, .bool r14.Enum.Monoid, .slice aG aF aH, .slice aw av ax, .slice al ak am, .slice aJ aI aK, .slice az ay aA, .slice aC aB aD, .int .i64 r14.Enum.Done, .map (some bt), .slice bH bG bI, .slice bv bu bw, .slice bz bx bA] 72 (0, 0)), .row 26 1 aG aF aH cd, .row 26 1 aw av ax bY, .row 3 1 al ak am bN, .row 3 1 aJ aI aK ce, .row 26 1 az ay aA bZ, .row 39 2 aC aB aD b4, .row 9 1 bH bG bI cP, .row 3 1 bv bu bw cy, .row 3 1 bz bx bA cz, .any (mapE (fun a : List UInt8 => Value.string (gstr a)) (fun a : Int => Value.int .i64 a) bt r14.number)] ++ A) w bN r14.Enum.Prefix ∧ Els (Rp.int .i64) (bl [.blk dP (.cells #[.int .i64 r14.Enum.Points, .bool r14.Enum.Monoid, .slice aG aF aH, .slice aw av ax, .slice al ak am, .slice aJ aI aK, .slice az ay aA, .slice aC aB aD, .int .i64 r14.Enum.Done, .map (some bt), .slice bH bG bI, .slice bv bu bw, .slice bz bx bA] 72 (0, 0)), .row 26 1 aG aF aH cd, .row 26 1 aw av ax bY, .row 3 1 al ak am bN, .row 3 1 aJ aI aK ce, .row 26 1 az ay aA bZ, .row 39 2 aC aB aD b4, .row 9 1 bH bG bI cP, .row 3 1 bv bu bw cy, .row 3 1 bz bx bA cz, .any (mapE (fun a : List UInt8 => Value.string (gstr a)) (fun a : Int => Value.int .i64 a) bt r14.number)] ++ A) w ce r14.Enum.Last ∧ Els (Rp.sl (Rp.int .i64)) (bl [.blk dP (.cells #[.int .i64 r14.Enum.Points, .bool r14.Enum.Monoid, .slice aG aF aH, .slice aw av ax, .slice al ak am, .slice aJ aI aK, .slice az ay aA, .slice aC aB aD, .int .i64 r14.Enum.Done, .map (some bt), .slice bH bG bI, .slice bv bu bw, .slice bz bx bA] 72 (0, 0)), .row 26 1 aG aF aH cd, .row 26 1 aw av ax bY, .row 3 1 al ak am bN, .row 3 1 aJ aI aK ce, .row 26 1 az ay aA bZ, .row 39 2 aC aB aD b4, .row 9 1 bH bG bI cP, .row 3 1 bv bu bw cy, .row 3 1 bz bx bA cz, .any (mapE (fun a : List UInt8 => Value.string (gstr a)) (fun a : Int => Value.int .i64 a) bt r14.number)] ++ A) w bZ r14.Enum.Right ∧ Els (rpRule) (bl [.blk dP (.cells #[.int .i64 r14.Enum.Points, .bool r14.Enum.Monoid, .slice aG aF aH, .slice aw av ax, .slice al ak am, .slice aJ aI aK, .slice az ay aA, .slice aC aB aD, .int .i64 r14.Enum.Done, .map (some bt), .slice bH bG bI, .slice bv bu bw, .slice bz bx bA] 72 (0, 0)), .row 26 1 aG aF aH cd, .row 26 1 aw av ax bY, .row 3 1 al ak am bN, .row 3 1 aJ aI aK ce, .row 26 1 az ay aA bZ, .row 39 2 aC aB aD b4, .row 9 1 bH bG bI cP, .row 3 1 bv bu bw cy, .row 3 1 bz bx bA cz, .any (mapE (fun a : List UInt8 => Value.string (gstr a)) (fun a : Int => Value.int .i64 a) bt r14.number)] ++ A) w b4 r14.Enum.Rules ∧ Els (Rp.str) (bl [.blk dP (.cells #[.int .i64 r14.Enum.Points, .bool r14.Enum.Monoid, .slice aG aF aH, .slice aw av ax, .slice al ak am, .slice aJ aI aK, .slice az ay aA, .slice aC aB aD, .int .i64 r14.Enum.Done, .map (some bt), .slice bH bG bI, .slice bv bu bw, .slice bz bx bA] 72 (0, 0)), .row 26 1 aG aF aH cd, .row 26 1 aw av ax bY, .row 3 1 al ak am bN, .row 3 1 aJ aI aK ce, .row 26 1 az ay aA bZ, .row 39 2 aC aB aD b4, .row 9 1 bH bG bI cP, .row 3 1 bv bu bw cy, .row 3 1 bz bx bA cz, .any (mapE (fun a : List UInt8 => Value.string (gstr a)) (fun a : Int => Value.int .i64 a) bt r14.number)] ++ A) w cP r14.words ∧ Els (Rp.int .i64) (bl [.blk dP (.cells #[.int .i64 r14.Enum.Points, .bool r14.Enum.Monoid, .slice aG aF aH, .slice aw av ax, .slice al ak am, .slice aJ aI aK, .slice az ay aA, .slice aC aB aD, .int .i64 r14.Enum.Done, .map (some bt), .slice bH bG bI, .slice bv bu bw, .slice bz bx bA] 72 (0, 0)), .row 26 1 aG aF aH cd, .row 26 1 aw av ax bY, .row 3 1 al ak am bN, .row 3 1 aJ aI aK ce, .row 26 1 az ay aA bZ, .row 39 2 aC aB aD b4, .row 9 1 bH bG bI cP, .row 3 1 bv bu bw cy, .row 3 1 bz bx bA cz, .any (mapE (fun a : List UInt8 => Value.string (gstr a)) (fun a : Int => Value.int .i64 a) bt r14.number)] ++ A) w cy r14.behind ∧ Els (Rp.int .i64) (bl [.blk dP (.cells #[.int .i64 r14.Enum.Points, .bool r14.Enum.Monoid, .slice aG aF aH, .slice aw av ax, .slice al ak am, .slice aJ aI aK, .slice az ay aA, .slice aC aB aD, .int .i64 r14.Enum.Done, .map (some bt), .slice bH bG bI, .slice bv bu bw, .slice bz bx bA] 72 (0, 0)), .row 26 1 aG aF aH cd, .row 26 1 aw av ax bY, .row 3 1 al ak am bN, .row 3 1 aJ aI aK ce, .row 26 1 az ay aA bZ, .row 39 2 aC aB aD b4, .row 9 1 bH bG bI cP, .row 3 1 bv bu bw cy, .row 3 1 bz bx bA cz, .any (mapE (fun a : List UInt8 => Value.string (gstr a)) (fun a : Int => Value.int .i64 a) bt r14.number)] ++ A) w cz r14.single ∧ Fr (bl []) w0 (bl [.blk dP (.cells #[.int .i64 r14.Enum.Points, .bool r14.Enum.Monoid, .slice aG aF aH, .slice aw av ax, .slice al ak am, .slice aJ aI aK, .slice az ay aA, .slice aC aB aD, .int .i64 r14.Enum.Done, .map (some bt), .slice bH bG bI, .slice bv bu bw, .slice bz bx bA] 72 (0, 0)), .row 26 1 aG aF aH cd, .row 26 1 aw av ax bY, .row 3 1 al ak am bN, .row 3 1 aJ aI aK ce, .row 26 1 az ay aA bZ, .row 39 2 aC aB aD b4, .row 9 1 bH bG bI cP, .row 3 1 bv bu bw cy, .row 3 1 bz bx bA cz, .any (mapE (fun a : List UInt8 => Value.string (gstr a)) (fun a : Int => Value.int .i64 a) bt r14.number)]) w) H ⟨⟨rfl, rfl, rfl, rfl, rfl, trivial⟩, hO, b5, bO, bM, b9, bB, bX, cJ, cw, b8, hB⟩ ?_
    intro X2
    refine prE fun i2_76 => fun k2_77 => ?_
    intro H hX2 σ w75
    refine andE fun hag => andE fun hO => andE fun b5 => andE fun bO => andE fun bM => andE fun b9 => andE fun bB => andE fun bX => andE fun cJ => andE fun cw => andE fun b8 => fun hB => ?_
    dsimp only at H
    refine Go1.keep [(0, .pointer (some ⟨dP, 0, none⟩)), (1, .int .i64 i2_76), (2, .string (gstr w_)), (15, .int .i64 (w_.length : Int)), (16, .int .i64 (k2_77 : Int))] hag ?_
    refine Go1.seq ?_
    refine Go1.region ?_
    by_cases h78 : (k2_77 : Int) < (w_.length : Int)
    ·replace H := ifp h78 H
     refine GoR.op ((fun w => opB (op_lss rfl rfl w) (decide_eq_true h78)) _) rfl rfl ?_
     refine GoR.nil ?_
     refine Go1.seq ?_
     refine Go1.condT rfl rfl ?_
     refine Go1.skip ?_
     refine Go1.seq ?_
     refine Go1.block ?_
     refine Go1.seq ?_
     refine Go1.region ?_
     refine GoR.op ((op_move rfl) _) rfl rfl ?_
     refine GoR.op ((op_assign rfl) _) rfl rfl ?_
     refine GoR.nil ?_
     refine Go1.region ?_
     refine GoR.op ((op_move rfl) _) rfl rfl ?_
     refine GoR.op ((op_move rfl) _) rfl rfl ?_
     refine GoR.op ((op_move rfl) _) rfl rfl ?_
     refine GoR.op ((op_move rfl) _) rfl rfl ?_
     obtain ⟨h79, H⟩ := H
     obtain ⟨h80, H⟩ := H
     refine GoR.op ((op_indexS Try.underlying9 rfl rfl h79 h80) _) rfl rfl ?_
     refine GoR.op ((op_sub rfl rfl rfl) _) rfl rfl ?_
     refine GoR.op ((op_conv Try.underlying5 Try.underlying3 rfl rfl) _) rfl rfl ?_
     refine GoR.inl (vs := [.pointer (some ⟨dP, 0, none⟩), .int .i64 i2_76, .int .i64 (IntKind.i64.wrap (IntKind.u8.wrap (((ix w_ (k2_77 : Int)).toNat : Int) - (97 : Int))))]) (caps := []) rfl rfl body66 Try.func66 rfl Try.ntmps66 rfl rfl rfl ?_
     intro RhR81 hR81
     refine Go1.seq ?_
     refine Go1.region ?_
     refine GoR.op ((op_assign rfl) _) rfl rfl ?_
     refine GoR.nil ?_
     refine Go1.seq ?_
     refine Go1.seq ?_
     refine Go1.region ?_
     refine GoR.op ((op_move rfl) _) rfl rfl ?_
     by_cases h82 : i2_76 = (-1 : Int)
     ·replace H := ifp h82 H
      refine GoR.op ((fun w => opB (op_eql rfl rfl w) (decide_eq_true h82)) _) rfl rfl ?_
      refine GoR.nil ?_
      refine Go1.condT rfl rfl ?_
      refine Go1.seq ?_
      refine Go1.region ?_
      refine GoR.op ((op_move rfl) _) rfl rfl ?_
      refine GoR.op ((op_nilCheck rfl) _) rfl rfl ?_
      refine GoR.op ((op_fieldAddr Try.underlying72 rfl ti26 rfl (by decide)) _) rfl rfl ?_
      refine GoR.op ((oblk (i := 12) 0 hO rfl rfl Try.underlying26 rfl rfl) _ (Same.refl _)) rfl rfl ?_
      refine GoR.op ((op_move rfl) _) rfl rfl ?_
      obtain ⟨h83, H⟩ := H
      obtain ⟨h84, H⟩ := H
      refine GoR.op ((op_index Try.underlying26 ti3 rfl rfl h83 (ltn (b8.neq hO 9 rfl) h84) (b8.psome hO 9 rfl h83 h84)) _) rfl rfl ?_
      refine GoR.op ((oldInt 9 hO rfl b8 h83 h84 Try.underlying3 rfl rfl) _ (Same.refl _)) rfl rfl ?_
      refine GoR.op ((op_assign rfl) _) rfl rfl ?_
      refine GoR.nil ?_
      refine Go1.ret1V Try.func66 rfl (show _ = .int .i64 (ix r14.single (IntKind.i64.wrap (IntKind.u8.wrap (((ix w_ (k2_77 : Int)).toNat : Int) - (97 : Int))))) from rfl) ?_
      refine hR81 _ _ ?_
      refine GoR.op ((op_assign rfl) _) rfl rfl ?_
      refine GoR.nil ?_
      refine Go1.inBlock ?_
      refine Go1.cut [(0, .pointer (some ⟨dP, 0, none⟩)), (1, .int .i64 (ix r14.single (IntKind.i64.wrap (IntKind.u8.wrap (((ix w_ (k2_77 : Int)).toNat : Int) - (97 : Int)))))), (2, .string (gstr w_)), (15, .int .i64 (w_.length : Int)), (16, .int .i64 (k2_77 : Int))] ⟨rfl, rfl, rfl, rfl, rfl, trivial⟩ ?_
      intro σ _
      refine Go1.region ?_
      refine GoR.op ((op_add rfl rfl (wrap_i64 (natbd h78 nD))) _) rfl rfl ?_
      refine GoR.op ((op_move rfl) _) rfl rfl ?_
      refine GoR.nil ?_
      exact hX2 _ H _ _ ⟨⟨rfl, rfl, rfl, rfl, rfl, trivial⟩, hO, b5, bO, bM, b9, bB, bX, cJ, cw, b8, hB⟩
     replace H := ifn h82 H
     refine GoR.op ((fun w => opB (op_eql rfl rfl w) (decide_eq_false h82)) _) rfl rfl ?_
     refine GoR.nil ?_
     refine Go1.condF rfl rfl ?_
     refine Go1.skip ?_
     refine Go1.seq ?_
     refine Go1.region ?_
     refine GoR.op ((op_move rfl) _) rfl rfl ?_
     refine GoR.op ((op_nilCheck rfl) _) rfl rfl ?_
     refine GoR.op ((op_fieldAddr Try.underlying72 rfl ti29 rfl (by decide)) _) rfl rfl ?_
     refine GoR.op ((op_fieldAddr Try.underlying29 rfl ti22 rfl (by decide)) _) rfl rfl ?_
     refine GoR.op ((oblk (i := 6) 0 hO rfl rfl Try.underlying22 rfl rfl) _ (Same.refl _)) rfl rfl ?_
     refine GoR.op ((op_move rfl) _) rfl rfl ?_
     obtain ⟨h85, H⟩ := H
     obtain ⟨h86, H⟩ := H
     refine GoR.op ((op_index Try.underlying22 ti26 rfl rfl h85 (ltn (bB.neq hO 5 rfl) h86) (bB.psome hO 5 rfl h85 h86)) _) rfl rfl ?_
     have hobt := oldSl 5 hO rfl bB h85 h86
     obtain ⟨p87, c88, Dr, IT⟩ := hobt
     refine GoR.op ((IT Try.underlying26 rfl rfl) _ (Same.refl _)) rfl rfl ?_
     refine GoR.op ((op_move rfl) _) rfl rfl ?_
     obtain ⟨h91, H⟩ := H
     obtain ⟨h92, H⟩ := H
     refine GoR.op ((op_index Try.underlying26 ti3 rfl rfl h91 h92 (Dr.some_ h91 h92)) _) rfl rfl ?_
     refine GoR.op ((ldInt Dr h91 h92 Try.underlying3 rfl rfl) _ (Same.refl _)) rfl rfl ?_
     refine GoR.op ((op_assign rfl) _) rfl rfl ?_
     refine GoR.nil ?_
     refine Go1.ret1V Try.func66 rfl (show _ = .int .i64 (ix (ix r14.Enum.Right i2_76) (IntKind.i64.wrap (IntKind.u8.wrap (((ix w_ (k2_77 : Int)).toNat : Int) - (97 : Int))))) from rfl) ?_
     refine hR81 _ _ ?_
     refine GoR.op ((op_assign rfl) _) rfl rfl ?_
     refine GoR.nil ?_
     refine Go1.inBlock ?_
     refine Go1.region ?_
     refine GoR.op ((op_add rfl rfl (wrap_i64 (natbd h78 nD))) _) rfl rfl ?_
     refine GoR.op ((op_move rfl) _) rfl rfl ?_
     refine GoR.nil ?_
     exact hX2 _ H _ _ ⟨⟨rfl, rfl, rfl, rfl, rfl, trivial⟩, hO, b5, bO, bM, b9, bB, bX, cJ, cw, b8, hB⟩
    replace H := ifn h78 H
    refine GoR.op ((fun w => opB (op_lss rfl rfl w) (decide_eq_false h78)) _) rfl rfl ?_
    refine GoR.nil ?_
    refine Go1.seq ?_
    refine Go1.condF rfl rfl ?_
    refine Go1.exit rfl ?_
    refine Go1.seq ?_
    refine Go1.region ?_
    refine GoR.op ((op_move rfl) _) rfl rfl ?_
    refine GoR.op ((op_assign rfl) _) rfl rfl ?_
    refine GoR.nil ?_
    refine Go1.ret1V Try.func59 rfl (show _ = .int .i64 i2_76 from rfl) ?_
    refine hR73 _ _ ?_
    refine GoR.op ((op_assign rfl) _) rfl rfl ?_
    refine GoR.nil ?_
    refine Go1.ret1 Try.func30 rfl ?_
    exact ⟨i2_76, rfl, hB.same, H⟩
   replace H := ifn h74 H
   refine GoR.op ((fun w => opB (op_eql rfl rfl w) (decide_eq_false h74)) _) rfl rfl ?_
   refine GoR.op ((op_move rfl) _) rfl rfl ?_
   refine GoR.pass rfl rfl ?_
   refine GoR.pass rfl rfl ?_
   refine GoR.op ((op_pickF rfl rfl rfl) _) rfl rfl ?_
   refine GoR.nil ?_
   refine Go1.condF rfl rfl ?_
   refine Go1.skip ?_
   refine Go1.seq ?_
   refine Go1.seq ?_
   refine Go1.cut [(0, .pointer (some ⟨dP, 0, none⟩)), (1, .int .i64 (-1 : Int)), (2, .string (gstr w_))] ⟨rfl, rfl, rfl, trivial⟩ ?_
   intro σ _
   refine Go1.region ?_
   refine GoR.op ((op_move rfl) _) rfl rfl ?_
   refine GoR.op ((op_lenS Try.underlying9 rfl) _) rfl rfl ?_
   replace H := H nD
   refine GoR.op ((op_move rfl) _) rfl rfl ?_
   refine GoR.nil ?_
   refine Go1.block ?_
   replace ah := ah.ch (Owns.dropCh _ _ 11)
   replace ae := ae.ch (Owns.dropCh _ _ 11)
   replace ad := ad.ch (Owns.dropCh _ _ 11)
   replace ai := ai.ch (Owns.dropCh _ _ 11)
   replace af := af.ch (Owns.dropCh _ _ 11)
   replace ag := ag.ch (Owns.dropCh _ _ 11)
   replace b5 := b5.ch (Owns.dropCh _ _ 11)
   replace bO := bO.ch (Owns.dropCh _ _ 11)
   replace bM := bM.ch (Owns.dropCh _ _ 11)
   replace b9 := b9.ch (Owns.dropCh _ _ 11)
   replace bB := bB.ch (Owns.dropCh _ _ 11)
   replace bX := bX.ch (Owns.dropCh _ _ 11)
   replace cJ := cJ.ch (Owns.dropCh _ _ 11)
   replace cw := cw.ch (Owns.dropCh _ _ 11)
   replace b8 := b8.ch (Owns.dropCh _ _ 11)
   replace hB := hB.trans (Owns.dropFr _ _ 11)
   replace hO := hO.drop 11
   dsimp only [eS, eZ] at hB hO ah ae ad ai af ag b5 bO bM b9 bB bX cJ cw b8
   replace ah := ah.ch (Owns.dropCh _ _ 11)
   replace ae := ae.ch (Owns.dropCh _ _ 11)
   replace ad := ad.ch (Owns.dropCh _ _ 11)
   replace ai := ai.ch (Owns.dropCh _ _ 11)
   replace af := af.ch (Owns.dropCh _ _ 11)
   replace ag := ag.ch (Owns.dropCh _ _ 11)
   replace b5 := b5.ch (Owns.dropCh _ _ 11)
   replace bO := bO.ch (Owns.dropCh _ _ 11)
   replace bM := bM.ch (Owns.dropCh _ _ 11)
   replace b9 := b9.ch (Owns.dropCh _ _ 11)
   replace bB := bB.ch (Owns.dropCh _ _ 11)
   replace bX := bX.ch (Owns.dropCh _ _ 11)
   replace cJ := cJ.ch (Owns.dropCh _ _ 11)
   replace cw := cw.ch (Owns.dropCh _ _ 11)
   replace b8 := b8.ch (Owns.dropCh _ _ 11)
   replace hB := hB.trans (Owns.dropFr _ _ 11)
   replace hO := hO.drop 11
   dsimp only [eS, eZ] at hB hO ah ae ad ai af ag b5 bO bM b9 bB bX cJ cw b8
   refine Go1.loopW (S := Int × Nat) (fun s σ w => match s with | (i3_94, k3_95) => agrees σ [(0, .pointer (some ⟨dP, 0, none⟩)), (1, .int .i64 i3_94), (2, .string (gstr w_)), (15, .int .i64 (w_.length : Int)), (16, .int .i64 (k3_95 : Int))] ∧ Owns w0.heap.size w [.blk dP (.cells #[.int .i64 r14.Enum.Points, .bool r14.Enum.Monoid, .slice aG aF aH, .slice aw av ax, .slice al ak am, .slice aJ aI aK, .slice az ay aA, .slice aC aB aD, .int .i64 r14.Enum.Done, .map (some bt), .slice bH bG bI, .slice bv bu bw, .slice bz bx bA] 72 (0, 0)), .row 26 1 aG aF aH cd, .row 26 1 aw av ax bY, .row 3 1 al ak am bN, .row 3 1 aJ aI aK ce, .row 26 1 az ay aA bZ, .row 39 2 aC aB aD b4, .row 9 1 bH bG bI cP, .row 3 1 bv bu bw cy, .row 3 1 bz bx bA cz, .any (mapE (fun a : List UInt8 => Value.string (gstr a)) (fun a : Int => Value.int .i64 a) bt r14.number)] A ∧ Els (Rp.sl (Rp.int .i64)) (bl [.blk dP (.cells #[.int .i64 r14.Enum.Points, .bool r14.Enum.Monoid, .slice aG aF aH, .slice aw av ax, .slice al ak am, .slice aJ aI aK, .slice az ay aA, .slice aC aB aD, .int .i64 r14.Enum.Done, .map (some bt), .slice bH bG bI, .slice bv bu bw, .slice bz bx bA] 72 (0, 0)), .row 26 1 aG aF aH cd, .row 26 1 aw av ax bY, .row 3 1 al ak am bN, .row 3 1 aJ aI aK ce, .row 26 1 az ay aA bZ, .row 39 2 aC aB aD b4, .row 9 1 bH bG bI cP, .row 3 1 bv bu bw cy, .row 3 1 bz bx bA cz, .any (mapE (fun a : List UInt8 => Value.string (gstr a)) (fun a : Int => Value.int .i64 a) bt r14.number)] ++ A) w cd r14.Enum.Gens ∧ Els (Rp.sl (Rp.int .i64)) (bl [.blk dP (.cells #[.int .i64 r14.Enum.Points, .bool r14.Enum.Monoid, .slice aG aF aH, .slice aw av ax, .slice al ak am, .slice aJ aI aK, .slice az ay aA, .slice aC aB aD, .int .i64 r14.Enum.Done, .map (some bt), .slice bH bG bI, .slice bv bu bw, .slice bz bx bA] 72 (0, 0)), .row 26 1 aG aF aH cd, .row 26 1 aw av ax bY, .row 3 1 al ak am bN, .row 3 1 aJ aI aK ce, .row 26 1 az ay aA bZ, .row 39 2 aC aB aD b4, .row 9 1 bH bG bI cP, .row 3 1 bv bu bw cy, .row 3 1 bz bx bA cz, .any (mapE (fun a : List UInt8 => Value.string (gstr a)) (fun a : Int => Value.int .i64 a) bt r14.number)] ++ A) w bY r14.Enum.Elems ∧ Els (Rp.int .i64) (bl [.blk dP (.cells #[.int .i64 r14.Enum.Points, .bool r14.Enum.Monoid, .slice aG aF aH, .slice aw av ax, .slice al ak am, .slice aJ aI aK, .slice az ay aA, .slice aC aB aD, .int .i64 r14.Enum.Done, .map (some bt), .slice bH bG bI, .slice bv bu bw, .slice bz bx bA] 72 (0, 0)), .row 26 1 aG aF aH cd, .row 26 1 aw av ax bY, .row 3 1 al ak am bN, .row 3 1 aJ aI aK ce, .row 26 1 az ay aA bZ, .row 39 2 aC aB aD b4, .row 9 1 bH bG bI cP, .row 3 1 bv bu bw cy, .row 3 1 bz bx bA cz, .any (mapE (fun a : List UInt8 => Value.string (gstr a)) (fun a : Int => Value.int .i64 a) bt r14.number)] ++ A) w bN r14.Enum.Prefix ∧ Els (Rp.int .i64) (bl [.blk dP (.cells #[.int .i64 r14.Enum.Points, .bool r14.Enum.Monoid, .slice aG aF aH, .slice aw av ax, .slice al ak am, .slice aJ aI aK, .slice az ay aA, .slice aC aB aD, .int .i64 r14.Enum.Done, .map (some bt), .slice bH bG bI, .slice bv bu bw, .slice bz bx bA] 72 (0, 0)), .row 26 1 aG aF aH cd, .row 26 1 aw av ax bY, .row 3 1 al ak am bN, .row 3 1 aJ aI aK ce, .row 26 1 az ay aA bZ, .row 39 2 aC aB aD b4, .row 9 1 bH bG bI cP, .row 3 1 bv bu bw cy, .row 3 1 bz bx bA cz, .any (mapE (fun a : List UInt8 => Value.string (gstr a)) (fun a : Int => Value.int .i64 a) bt r14.number)] ++ A) w ce r14.Enum.Last ∧ Els (Rp.sl (Rp.int .i64)) (bl [.blk dP (.cells #[.int .i64 r14.Enum.Points, .bool r14.Enum.Monoid, .slice aG aF aH, .slice aw av ax, .slice al ak am, .slice aJ aI aK, .slice az ay aA, .slice aC aB aD, .int .i64 r14.Enum.Done, .map (some bt), .slice bH bG bI, .slice bv bu bw, .slice bz bx bA] 72 (0, 0)), .row 26 1 aG aF aH cd, .row 26 1 aw av ax bY, .row 3 1 al ak am bN, .row 3 1 aJ aI aK ce, .row 26 1 az ay aA bZ, .row 39 2 aC aB aD b4, .row 9 1 bH bG bI cP, .row 3 1 bv bu bw cy, .row 3 1 bz bx bA cz, .any (mapE (fun a : List UInt8 => Value.string (gstr a)) (fun a : Int => Value.int .i64 a) bt r14.number)] ++ A) w bZ r14.Enum.Right ∧ Els (rpRule) (bl [.blk dP (.cells #[.int .i64 r14.Enum.Points, .bool r14.Enum.Monoid, .slice aG aF aH, .slice aw av ax, .slice al ak am, .slice aJ aI aK, .slice az ay aA, .slice aC aB aD, .int .i64 r14.Enum.Done, .map (some bt), .slice bH bG bI, .slice bv bu bw, .slice bz bx bA] 72 (0, 0)), .row 26 1 aG aF aH cd, .row 26 1 aw av ax bY, .row 3 1 al ak am bN, .row 3 1 aJ aI aK ce, .row 26 1 az ay aA bZ, .row 39 2 aC aB aD b4, .row 9 1 bH bG bI cP, .row 3 1 bv bu bw cy, .row 3 1 bz bx bA cz, .any (mapE (fun a : List UInt8 => Value.string (gstr a)) (fun a : Int => Value.int .i64 a) bt r14.number)] ++ A) w b4 r14.Enum.Rules ∧ Els (Rp.str) (bl [.blk dP (.cells #[.int .i64 r14.Enum.Points, .bool r14.Enum.Monoid, .slice aG aF aH, .slice aw av ax, .slice al ak am, .slice aJ aI aK, .slice az ay aA, .slice aC aB aD, .int .i64 r14.Enum.Done, .map (some bt), .slice bH bG bI, .slice bv bu bw, .slice bz bx bA] 72 (0, 0)), .row 26 1 aG aF aH cd, .row 26 1 aw av ax bY, .row 3 1 al ak am bN, .row 3 1 aJ aI aK ce, .row 26 1 az ay aA bZ, .row 39 2 aC aB aD b4, .row 9 1 bH bG bI cP, .row 3 1 bv bu bw cy, .row 3 1 bz bx bA cz, .any (mapE (fun a : List UInt8 => Value.string (gstr a)) (fun a : Int => Value.int .i64 a) bt r14.number)] ++ A) w cP r14.words ∧ Els (Rp.int .i64) (bl [.blk dP (.cells #[.int .i64 r14.Enum.Points, .bool r14.Enum.Monoid, .slice aG aF aH, .slice aw av ax, .slice al ak am, .slice aJ aI aK, .slice az ay aA, .slice aC aB aD, .int .i64 r14.Enum.Done, .map (some bt), .slice bH bG bI, .slice bv bu bw, .slice bz bx bA] 72 (0, 0)), .row 26 1 aG aF aH cd, .row 26 1 aw av ax bY, .row 3 1 al ak am bN, .row 3 1 aJ aI aK ce, .row 26 1 az ay aA bZ, .row 39 2 aC aB aD b4, .row 9 1 bH bG bI cP, .row 3 1 bv bu bw cy, .row 3 1 bz bx bA cz, .any (mapE (fun a : List UInt8 => Value.string (gstr a)) (fun a : Int => Value.int .i64 a) bt r14.number)] ++ A) w cy r14.behind ∧ Els (Rp.int .i64) (bl [.blk dP (.cells #[.int .i64 r14.Enum.Points, .bool r14.Enum.Monoid, .slice aG aF aH, .slice aw av ax, .slice al ak am, .slice aJ aI aK, .slice az ay aA, .slice aC aB aD, .int .i64 r14.Enum.Done, .map (some bt), .slice bH bG bI, .slice bv bu bw, .slice bz bx bA] 72 (0, 0)), .row 26 1 aG aF aH cd, .row 26 1 aw av ax bY, .row 3 1 al ak am bN, .row 3 1 aJ aI aK ce, .row 26 1 az ay aA bZ, .row 39 2 aC aB aD b4, .row 9 1 bH bG bI cP, .row 3 1 bv bu bw cy, .row 3 1 bz bx bA cz, .any (mapE (fun a : List UInt8 => Value.string (gstr a)) (fun a : Int => Value.int .i64 a) bt r14.number)] ++ A) w cz r14.single ∧ Fr (bl []) w0 (bl [.blk dP (.cells #[.int .i64 r14.Enum.Points, .bool r14.Enum.Monoid, .slice aG aF aH, .slice aw av ax, .slice al ak am, .slice aJ aI aK, .slice az ay aA, .slice aC aB aD, .int .i64 r14.Enum.Done, .map (some bt), .slice bH bG bI, .slice bv bu bw, .slice bz bx bA] 72 (0, 0)), .row 26 1 aG aF aH cd, .row 26 1 aw av ax bY, .row 3 1 al ak am bN, .row 3 1 aJ aI aK ce, .row 26 1 az ay aA bZ, .row 39 2 aC aB aD b4, .row 9 1 bH bG bI cP, .row 3 1 bv bu bw cy, .row 3 1 bz bx bA cz, .any (mapE (fun a : List UInt8 => Value.string (gstr a)) (fun a : Int => Value.int .i64 a) bt r14.number)]) w) H ⟨⟨rfl, rfl, rfl, rfl, rfl, trivial⟩, hO, b5, bO, bM, b9, bB, bX, cJ, cw, b8, hB⟩ ?_
   intro X3
   refine prE fun i3_94 => fun k3_95 => ?_
   intro H hX3 σ w93
   refine andE fun hag => andE fun hO => andE fun b5 => andE fun bO => andE fun bM => andE fun b9 => andE fun bB => andE fun bX => andE fun cJ => andE fun cw => andE fun b8 => fun hB => ?_
   dsimp only at H
   refine Go1.keep [(0, .pointer (some ⟨dP, 0, none⟩)), (1, .int .i64 i3_94), (2, .string (gstr w_)), (15, .int .i64 (w_.length : Int)), (16, .int .i64 (k3_95 : Int))] hag ?_
   refine Go1.seq ?_
   refine Go1.region ?_
   by_cases h96 : (k3_95 : Int) < (w_.length : Int)
   ·replace H := ifp h96 H
    refine GoR.op ((fun w => opB (op_lss rfl rfl w) (decide_eq_true h96)) _) rfl rfl ?_
    refine GoR.nil ?_
    refine Go1.seq ?_
    refine Go1.condT rfl rfl ?_
    refine Go1.skip ?_
    refine Go1.seq ?_
    refine Go1.block ?_
    refine Go1.seq ?_
    refine Go1.region ?_
    refine GoR.op ((op_move rfl) _) rfl rfl ?_
    refine GoR.op ((op_assign rfl) _) rfl rfl ?_
    refine GoR.nil ?_
    refine Go1.region ?_
    refine GoR.op ((op_move rfl) _) rfl rfl ?_
    refine GoR.op ((op_move rfl) _) rfl rfl ?_
    refine GoR.op ((op_move rfl) _) rfl rfl ?_
    refine GoR.op ((op_move rfl) _) rfl rfl ?_
    obtain ⟨h97, H⟩ := H
    obtain ⟨h98, H⟩ := H
    refine GoR.op ((op_indexS Try.underlying9 rfl rfl h97 h98) _) rfl rfl ?_
    refine GoR.op ((op_sub rfl rfl rfl) _) rfl rfl ?_
    refine GoR.op ((op_conv Try.underlying5 Try.underlying3 rfl rfl) _) rfl rfl ?_
    refine GoR.inl (vs := [.pointer (some ⟨dP, 0, none⟩), .int .i64 i3_94, .int .i64 (IntKind.i64.wrap (IntKind.u8.wrap (((ix w_ (k3_95 : Int)).toNat : Int) - (97 : Int))))]) (caps := []) rfl rfl body66 Try.func66 rfl Try.ntmps66 rfl rfl rfl ?_
    intro RhR99 hR99
    refine Go1.seq ?_
    refine Go1.region ?_
    refine GoR.op ((op_assign rfl) _) rfl rfl ?_
    refine GoR.nil ?_
    refine Go1.seq ?_
    refine Go1.seq ?_
    refine Go1.region ?_
    refine GoR.op ((op_move rfl) _) rfl rfl ?_
    by_cases u4 : i3_94 = (-1 : Int)
    ·replace H := ifp u4 H
     refine GoR.op ((fun w => opB (op_eql rfl rfl w) (decide_eq_true u4)) _) rfl rfl ?_
     refine GoR.nil ?_
     refine Go1.condT rfl rfl ?_
     refine Go1.seq ?_
     refine Go1.region ?_
     refine GoR.op ((op_move rfl) _) rfl rfl ?_
     refine GoR.op ((op_nilCheck rfl) _) rfl rfl ?_
     refine GoR.op ((op_fieldAddr Try.underlying72 rfl ti26 rfl (by decide)) _) rfl rfl ?_
     refine GoR.op ((oblk (i := 12) 0 hO rfl rfl Try.underlying26 rfl rfl) _ (Same.refl _)) rfl rfl ?_
     refine GoR.op ((op_move rfl) _) rfl rfl ?_
     obtain ⟨we, H⟩ := H
     obtain ⟨vc, H⟩ := H
     refine GoR.op ((op_index Try.underlying26 ti3 rfl rfl we (ltn (b8.neq hO 9 rfl) vc) (b8.psome hO 9 rfl we vc)) _) rfl rfl ?_
     refine GoR.op ((oldInt 9 hO rfl b8 we vc Try.underlying3 rfl rfl) _ (Same.refl _)) rfl rfl ?_
     refine GoR.op ((op_assign rfl) _) rfl rfl ?_
     refine GoR.nil ?_
     refine Go1.ret1V Try.func66 rfl (show _ = .int .i64 (ix r14.single (IntKind.i64.wrap (IntKind.u8.wrap (((ix w_ (k3_95 : Int)).toNat : Int) - (97 : Int))))) from rfl) ?_
     refine hR99 _ _ ?_
     refine GoR.op ((op_assign rfl) _) rfl rfl ?_
     refine GoR.nil ?_
     refine Go1.inBlock ?_
     refine Go1.cut [(0, .pointer (some ⟨dP, 0, none⟩)), (1, .int .i64 (ix r14.single (IntKind.i64.wrap (IntKind.u8.wrap (((ix w_ (k3_95 : Int)).toNat : Int) - (97 : Int)))))), (2, .string (gstr w_)), (15, .int .i64 (w_.length : Int)), (16, .int .i64 (k3_95 : Int))] ⟨rfl, rfl, rfl, rfl, rfl, trivial⟩ ?_
     intro σ _
     refine Go1.region ?_
     refine GoR.op ((op_add rfl rfl (wrap_i64 (natbd h96 nD))) _) rfl rfl ?_
     refine GoR.op ((op_move rfl) _) rfl rfl ?_
     refine GoR.nil ?_
     exact hX3 _ H _ _ ⟨⟨rfl, rfl, rfl, rfl, rfl, trivial⟩, hO, b5, bO, bM, b9, bB, bX, cJ, cw, b8, hB⟩
    replace H := ifn u4 H
    refine GoR.op ((fun w => opB (op_eql rfl rfl w) (decide_eq_false u4)) _) rfl rfl ?_
    refine GoR.nil ?_
    refine Go1.condF rfl rfl ?_
    refine Go1.skip ?_
    refine Go1.seq ?_
    refine Go1.region ?_
    refine GoR.op ((op_move rfl) _) rfl rfl ?_
    refine GoR.op ((op_nilCheck rfl) _) rfl rfl ?_
    refine GoR.op ((op_fieldAddr Try.underlying72 rfl ti29 rfl (by decide)) _) rfl rfl ?_
    refine GoR.op ((op_fieldAddr Try.underlying29 rfl ti22 rfl (by decide)) _) rfl rfl ?_
    refine GoR.op ((oblk (i := 6) 0 hO rfl rfl Try.underlying22 rfl rfl) _ (Same.refl _)) rfl rfl ?_
    refine GoR.op ((op_move rfl) _) rfl rfl ?_
    obtain ⟨vd, H⟩ := H
    obtain ⟨u5, H⟩ := H
    refine GoR.op ((op_index Try.underlying22 ti26 rfl rfl vd (ltn (bB.neq hO 5 rfl) u5) (bB.psome hO 5 rfl vd u5)) _) rfl rfl ?_
    have hobt := oldSl 5 hO rfl bB vd u5
    obtain ⟨Ni, Nj, Ba, GR⟩ := hobt
    refine GoR.op ((GR Try.underlying26 rfl rfl) _ (Same.refl _)) rfl rfl ?_
    refine GoR.op ((op_move rfl) _) rfl rfl ?_
    obtain ⟨u6, H⟩ := H
    obtain ⟨wg, H⟩ := H
    refine GoR.op ((op_index Try.underlying26 ti3 rfl rfl u6 wg (Ba.some_ u6 wg)) _) rfl rfl ?_
    refine GoR.op ((ldInt Ba u6 wg Try.underlying3 rfl rfl) _ (Same.refl _)) rfl rfl ?_
    refine GoR.op ((op_assign rfl) _) rfl rfl ?_
    refine GoR.nil ?_
    refine Go1.ret1V Try.func66 rfl (show _ = .int .i64 (ix (ix r14.Enum.Right i3_94) (IntKind.i64.wrap (IntKind.u8.wrap (((ix w_ (k3_95 : Int)).toNat : Int) - (97 : Int))))) from rfl) ?_
    refine hR99 _ _ ?_
    refine GoR.op ((op_assign rfl) _) rfl rfl ?_
    refine GoR.nil ?_
    refine Go1.inBlock ?_
    refine Go1.region ?_
    refine GoR.op ((op_add rfl rfl (wrap_i64 (natbd h96 nD))) _) rfl rfl ?_
    refine GoR.op ((op_move rfl) _) rfl rfl ?_
    refine GoR.nil ?_
    exact hX3 _ H _ _ ⟨⟨rfl, rfl, rfl, rfl, rfl, trivial⟩, hO, b5, bO, bM, b9, bB, bX, cJ, cw, b8, hB⟩
   replace H := ifn h96 H
   refine GoR.op ((fun w => opB (op_lss rfl rfl w) (decide_eq_false h96)) _) rfl rfl ?_
   refine GoR.nil ?_
   refine Go1.seq ?_
   refine Go1.condF rfl rfl ?_
   refine Go1.exit rfl ?_
   refine Go1.seq ?_
   refine Go1.region ?_
   refine GoR.op ((op_move rfl) _) rfl rfl ?_
   refine GoR.op ((op_assign rfl) _) rfl rfl ?_
   refine GoR.nil ?_
   refine Go1.ret1V Try.func59 rfl (show _ = .int .i64 i3_94 from rfl) ?_
   refine hR73 _ _ ?_
   refine GoR.op ((op_assign rfl) _) rfl rfl ?_
   refine GoR.nil ?_
   refine Go1.ret1 Try.func30 rfl ?_
   exact ⟨i3_94, rfl, hB.same, H⟩
  replace H := ifn h44 H
  refine GoQ.pure rfl (fun w => opB (op_eql rfl rfl w) (decide_eq_false h44)) rfl rfl ?_
  refine GoQ.pure rfl (op_assign rfl) rfl rfl ?_
  refine GoQ.nil ?_
  refine Go1.ret1V Try.func50 rfl (show _ = .bool false from rfl) ?_
  refine hR40 _ _ ?_
  refine GoR.op ((op_pickT rfl rfl rfl) _) rfl rfl ?_
  refine GoR.op ((op_assign rfl) _) rfl rfl ?_
  refine GoR.op ((op_assign rfl) _) rfl rfl ?_
  refine GoR.nil ?_
  refine Go1.ret2V Try.func57 rfl (show _ = .pointer (some ⟨dP, 0, none⟩) from rfl) (show _ = .bool false from rfl) ?_
  refine hR7 _ _ ?_
  refine GoR.op ((op_move rfl) _) rfl rfl ?_
  refine GoR.op ((op_extract rfl rfl) _) rfl rfl ?_
  refine GoR.op ((op_extract rfl rfl) _) rfl rfl ?_
  refine GoR.op ((op_assign rfl) _) rfl rfl ?_
  refine GoR.op ((op_assign rfl) _) rfl rfl ?_
  refine GoR.nil ?_
  refine Go1.seq ?_
  refine Go1.seq ?_
  refine Go1.cut [(1, .string (gstr w_)), (5, .pointer (some ⟨dP, 0, none⟩)), (6, .bool false)] ⟨rfl, rfl, rfl, trivial⟩ ?_
  intro σ _
  refine Go1.region ?_
  refine GoR.op ((op_move rfl) _) rfl rfl ?_
  refine GoR.op ((op_not rfl) _) rfl rfl ?_
  refine GoR.op ((op_move rfl) _) rfl rfl ?_
  refine GoR.pass rfl rfl ?_
  refine GoR.pass rfl rfl ?_
  refine GoR.pass rfl rfl ?_
  refine GoR.pass rfl rfl ?_
  refine GoR.pass rfl rfl ?_
  refine GoR.pass rfl rfl ?_
  refine GoR.pass rfl rfl ?_
  refine GoR.pass rfl rfl ?_
  refine GoR.pass rfl rfl ?_
  refine GoR.op ((op_pickT rfl rfl rfl) _) rfl rfl ?_
  refine GoR.op ((op_move rfl) _) rfl rfl ?_
  refine GoR.pass rfl rfl ?_
  refine GoR.pass rfl rfl ?_
  refine GoR.pass rfl rfl ?_
  refine GoR.pass rfl rfl ?_
  refine GoR.pass rfl rfl ?_
  refine GoR.pass rfl rfl ?_
  refine GoR.pass rfl rfl ?_
  refine GoR.pass rfl rfl ?_
  refine GoR.pass rfl rfl ?_
  refine GoR.pass rfl rfl ?_
  refine GoR.op ((op_pickT rfl rfl rfl) _) rfl rfl ?_
  refine GoR.nil ?_
  refine Go1.condT rfl rfl ?_
  refine Go1.seq ?_
  refine Go1.cut [] trivial ?_
  intro σ _
  refine Go1.region ?_
  refine GoR.op ((op_assign rfl) _) rfl rfl ?_
  refine GoR.nil ?_
  refine Go1.ret1 Try.func30 rfl ?_
  exact ⟨(-1 : Int), rfl, hB.same, H⟩
theorem walk_law12_EnumerateCovers {A : List Nat} {w0 : World} {sw : Option Addr} {sx : Nat} {a0 : List (List Int)} {a1 : Bool} {a2 : Str} (hA : ∀ b ∈ A, b < w0.heap.size) (b7 : ISl (Rp.sl (Rp.int .i64)) A w0 sw sx a0) (ud : a2.length ≤ mx) {K : Bool → Prop} (H : law12_EnumerateCovers a0 a1 a2 K) :
    CallsV Try.prog 7 #[.slice sw a0.length sx, .bool a1, .string (gstr a2)] w0 (fun v w' => ∃ (r0 : Bool), v = .bool r0 ∧ Same w0 w' ∧ K r0) := by
 refine CallsV.of (l := [.slice sw a0.length sx, .bool a1, .string (gstr a2)]) Try.func7 rfl Try.ntmps7 rfl ?_
 have hO := Owns.start hA
 have hB := Fr.refl (bl []) w0
 unfold law12_EnumerateCovers at H
 replace b7 := b7.ch (Ch.start A w0)
 refine Go1.seq ?_
 refine Go1.region ?_
 refine GoR.op ((op_assign rfl) _) rfl rfl ?_
 refine GoR.nil ?_
 refine Go1.seq ?_
 refine Go1.seq ?_
 refine Go1.region ?_
 refine GoR.op ((op_move rfl) _) rfl rfl ?_
 refine GoR.call (op_call body15 rfl (walk_law12_little hO.lt b7 H)) rfl rfl ?_
 rintro v5 w2 ⟨r1, rfl, hs3, H⟩
 have sv := Stp.same hO hs3
 replace hO := sv.own
 replace b7 := b7.ch sv.ch
 replace hB := hB.trans sv.fr
 cases r1
 ·replace H := ifn Bool.false_ne_true H
  refine GoR.op ((op_not rfl) _) rfl rfl ?_
  refine GoR.op ((op_move rfl) _) rfl rfl ?_
  refine GoR.pass rfl rfl ?_
  refine GoR.pass rfl rfl ?_
  refine GoR.pass rfl rfl ?_
  refine GoR.pass rfl rfl ?_
  refine GoR.pass rfl rfl ?_
  refine GoR.pass rfl rfl ?_
  refine GoR.op ((op_pickT rfl rfl rfl) _) rfl rfl ?_
  refine GoR.op ((op_move rfl) _) rfl rfl ?_
  refine GoR.pass rfl rfl ?_
  refine GoR.pass rfl rfl ?_
  refine GoR.op ((op_pickT rfl rfl rfl) _) rfl rfl ?_
  refine GoR.op ((op_move rfl) _) rfl rfl ?_
  refine GoR.pass rfl rfl ?_
  refine GoR.pass rfl rfl ?_
  refine GoR.pass rfl rfl ?_
  refine GoR.op ((op_pickT rfl rfl rfl) _) rfl rfl ?_
  refine GoR.nil ?_
  refine Go1.condT rfl rfl ?_
  refine Go1.seq ?_
  refine Go1.cut [] trivial ?_
  intro σ _
  refine Go1.region ?_
  refine GoR.call (op_call body16 rfl (walk_law12_awake hO.lt H)) rfl rfl ?_
  rintro v11 w8 ⟨r7, rfl, hs9, H⟩
  have zD := Stp.same hO hs9
  replace hO := zD.own
  replace b7 := b7.ch zD.ch
  replace hB := hB.trans zD.fr
  refine GoR.op ((op_assign rfl) _) rfl rfl ?_
  refine GoR.nil ?_
  refine Go1.ret1 Try.func7 rfl ?_
  exact ⟨r7, rfl, hB.same, H⟩
 replace H := ifp rfl H
 refine GoR.op ((op_not rfl) _) rfl rfl ?_
 refine GoR.op ((op_move rfl) _) rfl rfl ?_
 refine GoR.op ((op_move rfl) _) rfl rfl ?_
 refine GoR.op ((op_move rfl) _) rfl rfl ?_
 refine GoR.op ((op_len Try.underlying22 rfl) _) rfl rfl ?_
 replace H := H b7.bd
 by_cases h13 : (1 : Int) < (a0.length : Int)
 ·replace H := ifp h13 H
  refine GoR.op ((op_maxT rfl rfl h13) _) rfl rfl ?_
  refine GoR.call (op_call body27 rfl (walk_ref01_Valid hO.lt ud H)) rfl rfl ?_
  rintro v18 w15 ⟨r14, rfl, IU, H⟩
  have zE := Stp.same hO IU
  replace hO := zE.own
  replace b7 := b7.ch zE.ch
  replace hB := hB.trans zE.fr
  cases r14
  ·replace H := ifn Bool.false_ne_true H
   refine GoR.op ((op_not rfl) _) rfl rfl ?_
   refine GoR.op ((op_pickF rfl rfl rfl) _) rfl rfl ?_
   refine GoR.op ((op_move rfl) _) rfl rfl ?_
   refine GoR.pass rfl rfl ?_
   refine GoR.pass rfl rfl ?_
   refine GoR.op ((op_pickT rfl rfl rfl) _) rfl rfl ?_
   refine GoR.op ((op_move rfl) _) rfl rfl ?_
   refine GoR.pass rfl rfl ?_
   refine GoR.pass rfl rfl ?_
   refine GoR.pass rfl rfl ?_
   refine GoR.op ((op_pickT rfl rfl rfl) _) rfl rfl ?_
   refine GoR.nil ?_
   refine Go1.condT rfl rfl ?_
   refine Go1.seq ?_
   refine Go1.cut [] trivial ?_
   intro σ _
   refine Go1.region ?_
   refine GoR.call (op_call body16 rfl (walk_law12_awake hO.lt H)) rfl rfl ?_
   rintro v24 w21 ⟨r20, rfl, IV, H⟩
   have tP := Stp.same hO IV
   replace hO := tP.own
   replace b7 := b7.ch tP.ch
   replace hB := hB.trans tP.fr
   refine GoR.op ((op_assign rfl) _) rfl rfl ?_
   refine GoR.nil ?_
   refine Go1.ret1 Try.func7 rfl ?_
   exact ⟨r20, rfl, hB.same, H⟩
  replace H := ifp rfl H
  refine GoR.op ((op_not rfl) _) rfl rfl ?_
  refine GoR.op ((op_pickF rfl rfl rfl) _) rfl rfl ?_
  refine GoR.op ((op_move rfl) _) rfl rfl ?_
  refine GoR.op ((op_move rfl) _) rfl rfl ?_
  by_cases h26 : a2 = (([] : Str))
  ·replace H := ifp h26 H
   refine GoR.op ((fun w => opB (op_eqlS rfl rfl w) (decide_eq_true h26)) _) rfl rfl ?_
   refine GoR.op ((op_pickF rfl rfl rfl) _) rfl rfl ?_
   refine GoR.op ((op_move rfl) _) rfl rfl ?_
   refine GoR.pass rfl rfl ?_
   refine GoR.pass rfl rfl ?_
   refine GoR.pass rfl rfl ?_
   refine GoR.op ((op_pickT rfl rfl rfl) _) rfl rfl ?_
   refine GoR.nil ?_
   refine Go1.condT rfl rfl ?_
   refine Go1.seq ?_
   refine Go1.region ?_
   refine GoR.call (op_call body16 rfl (walk_law12_awake hO.lt H)) rfl rfl ?_
   rintro v31 w28 ⟨r27, rfl, IW, H⟩
   have zF := Stp.same hO IW
   replace hO := zF.own
   replace b7 := b7.ch zF.ch
   replace hB := hB.trans zF.fr
   refine GoR.op ((op_assign rfl) _) rfl rfl ?_
   refine GoR.nil ?_
   refine Go1.ret1 Try.func7 rfl ?_
   exact ⟨r27, rfl, hB.same, H⟩
  replace H := ifn h26 H
  refine GoR.op ((fun w => opB (op_eqlS rfl rfl w) (decide_eq_false h26)) _) rfl rfl ?_
  refine GoR.op ((op_pickF rfl rfl rfl) _) rfl rfl ?_
  refine GoR.op ((op_move rfl) _) rfl rfl ?_
  refine GoR.op ((op_move rfl) _) rfl rfl ?_
  refine GoR.op ((op_lenS Try.underlying9 rfl) _) rfl rfl ?_
  replace H := H ud
  by_cases h33 : (40 : Int) < (a2.length : Int)
  ·replace H := ifp h33 H
   refine GoR.op ((fun w => opB (op_gtr rfl rfl w) (decide_eq_true h33)) _) rfl rfl ?_
   refine GoR.op ((op_pickF rfl rfl rfl) _) rfl rfl ?_
   refine GoR.nil ?_
   refine Go1.condT rfl rfl ?_
   refine Go1.seq ?_
   refine Go1.cut [] trivial ?_
   intro σ _
   refine Go1.region ?_
   refine GoR.call (op_call body16 rfl (walk_law12_awake hO.lt H)) rfl rfl ?_
   rintro v38 w35 ⟨r34, rfl, IX, H⟩
   have zG := Stp.same hO IX
   replace hO := zG.own
   replace b7 := b7.ch zG.ch
   replace hB := hB.trans zG.fr
   refine GoR.op ((op_assign rfl) _) rfl rfl ?_
   refine GoR.nil ?_
   refine Go1.ret1 Try.func7 rfl ?_
   exact ⟨r34, rfl, hB.same, H⟩
  replace H := ifn h33 H
  refine GoR.op ((fun w => opB (op_gtr rfl rfl w) (decide_eq_false h33)) _) rfl rfl ?_
  refine GoR.op ((op_pickF rfl rfl rfl) _) rfl rfl ?_
  refine GoR.nil ?_
  refine Go1.condF rfl rfl ?_
  refine Go1.skip ?_
  refine Go1.seq ?_
  refine Go1.region ?_
  refine GoR.op ((op_move rfl) _) rfl rfl ?_
  refine GoR.op ((op_move rfl) _) rfl rfl ?_
  refine GoR.call (op_call body17 rfl (walk_enumerate_Build hO.lt b7 H)) rfl rfl ?_
  rintro v45 w42 ⟨r40, r41, jh, ji, iJ, iK, gN, gO, jj, jk, iL, iM, fO, fP, rfl, IY, dG, dm, c5, dH, dn, cK, H⟩
  have zH := Stp.same hO IY
  replace hO := zH.own
  replace b7 := b7.ch zH.ch
  replace hB := hB.trans zH.fr
  refine GoR.op ((op_move rfl) _) rfl rfl ?_
  refine GoR.op ((op_extract rfl rfl) _) rfl rfl ?_
  refine GoR.op ((op_extract rfl rfl) _) rfl rfl ?_
  have hobt := oalloc (t := 29) (cs := #[.int .i64 (0 : Int), .bool false, .slice none 0 0, .slice none 0 0, .slice none 0 0, .slice none 0 0, .slice none 0 0, .slice none 0 0, .int .i64 (0 : Int)]) ti29 hO rfl
  obtain ⟨w47, B48, tC, Nk, GT⟩ := hobt
  refine GoR.op GT rfl rfl ?_
  replace hO := tC.own
  replace b7 := b7.ch tC.ch
  replace dG := dG.ch tC.ch
  replace dm := dm.ch tC.ch
  replace c5 := c5.ch tC.ch
  replace dH := dH.ch tC.ch
  replace dn := dn.ch tC.ch
  replace cK := cK.ch tC.ch
  replace hB := hB.trans tC.fr
  have hobt := oblkStAgg (us := [.int .i64 r40.Points, .bool r40.Monoid, .slice jh r40.Gens.length ji, .slice iJ r40.Elems.length iK, .slice gN r40.Prefix.length gO, .slice jj r40.Last.length jk, .slice iL r40.Right.length iM, .slice fO r40.Rules.length fP, .int .i64 r40.Done]) (o := 0) (cs' := #[.int .i64 r40.Points, .bool r40.Monoid, .slice jh r40.Gens.length ji, .slice iJ r40.Elems.length iK, .slice gN r40.Prefix.length gO, .slice jj r40.Last.length jk, .slice iL r40.Right.length iM, .slice fO r40.Rules.length fP, .int .i64 r40.Done]) 0 hO rfl rfl (Nat.le_of_ble_eq_true rfl) rfl
  obtain ⟨w53, oT, GU⟩ := hobt
  refine GoR.op (GU ti29 (by exact rfl) (by exact rfl) rfl) rfl rfl ?_
  replace hO := oT.own
  replace b7 := b7.ch oT.ch
  replace dG := dG.ch oT.ch
  replace dm := dm.ch oT.ch
  replace c5 := c5.ch oT.ch
  replace dH := dH.ch oT.ch
  replace dn := dn.ch oT.ch
  replace cK := cK.ch oT.ch
  replace hB := hB.trans oT.fr
  refine GoR.op ((op_assign rfl) _) rfl rfl ?_
  refine GoR.nil ?_
  refine Go1.seq ?_
  refine Go1.seq ?_
  refine Go1.region ?_
  refine GoR.op ((op_move rfl) _) rfl rfl ?_
  by_cases h56 : r41 = (0 : Int)
  ·replace H := ifp h56 H
   refine GoR.op ((fun w => opB (op_neq rfl rfl w) (ndT h56)) _) rfl rfl ?_
   refine GoR.nil ?_
   refine Go1.condF rfl rfl ?_
   refine Go1.skip ?_
   refine Go1.seq ?_
   refine Go1.region ?_
   refine GoR.op ((op_assign rfl) _) rfl rfl ?_
   refine GoR.nil ?_
   refine Go1.seq ?_
   refine Go1.seq ?_
   refine Go1.region ?_
   refine GoR.op ((op_fieldAddr Try.underlying29 rfl ti27 rfl (by decide)) _) rfl rfl ?_
   refine GoR.op ((oblk (i := 7) 0 hO rfl rfl Try.underlying27 rfl rfl) _ (Same.refl _)) rfl rfl ?_
   refine GoR.op ((op_len Try.underlying27 rfl) _) rfl rfl ?_
   replace H := H cK.bd
   refine GoR.op ((op_move rfl) _) rfl rfl ?_
   refine GoR.nil ?_
   refine Go1.block ?_
   refine Go1.loopW (S := Bool × Nat) (fun s σ w => match s with | (b1_58, k1_59) => agrees σ [(2, .string (gstr a2)), (7, .pointer (some ⟨B48, 0, none⟩)), (9, .bool b1_58), (42, .slice fO r40.Rules.length fP), (43, .int .i64 (r40.Rules.length : Int)), (44, .int .i64 (k1_59 : Int))] ∧ Owns w0.heap.size w [.blk B48 (.cells #[.int .i64 r40.Points, .bool r40.Monoid, .slice jh r40.Gens.length ji, .slice iJ r40.Elems.length iK, .slice gN r40.Prefix.length gO, .slice jj r40.Last.length jk, .slice iL r40.Right.length iM, .slice fO r40.Rules.length fP, .int .i64 r40.Done] 29 (0, 0))] A ∧ ISl (Rp.sl (Rp.int .i64)) (bl [.blk B48 (.cells #[.int .i64 r40.Points, .bool r40.Monoid, .slice jh r40.Gens.length ji, .slice iJ r40.Elems.length iK, .slice gN r40.Prefix.length gO, .slice jj r40.Last.length jk, .slice iL r40.Right.length iM, .slice fO r40.Rules.length fP, .int .i64 r40.Done] 29 (0, 0))] ++ A) w jh ji r40.Gens ∧ ISl (Rp.sl (Rp.int .i64)) (bl [.blk B48 (.cells #[.int .i64 r40.Points, .bool r40.Monoid, .slice jh r40.Gens.length ji, .slice iJ r40.Elems.length iK, .slice gN r40.Prefix.length gO, .slice jj r40.Last.length jk, .slice iL r40.Right.length iM, .slice fO r40.Rules.length fP, .int .i64 r40.Done] 29 (0, 0))] ++ A) w iJ iK r40.Elems ∧ ISl (Rp.int .i64) (bl [.blk B48 (.cells #[.int .i64 r40.Points, .bool r40.Monoid, .slice jh r40.Gens.length ji, .slice iJ r40.Elems.length iK, .slice gN r40.Prefix.length gO, .slice jj r40.Last.length jk, .slice iL r40.Right.length iM, .slice fO r40.Rules.length fP, .int .i64 r40.Done] 29 (0, 0))] ++ A) w gN gO r40.Prefix ∧ ISl (Rp.int .i64) (bl [.blk B48 (.cells #[.int .i64 r40.Points, .bool r40.Monoid, .slice jh r40.Gens.length ji, .slice iJ r40.Elems.length iK, .slice gN r40.Prefix.length gO, .slice jj r40.Last.length jk, .slice iL r40.Right.length iM, .slice fO r40.Rules.length fP, .int .i64 r40.Done] 29 (0, 0))] ++ A) w jj jk r40.Last ∧ ISl (Rp.sl (Rp.int .i64)) (bl [.blk B48 (.cells #[.int .i64 r40.Points, .bool r40.Monoid, .slice jh r40.Gens.length ji, .slice iJ r40.Elems.length iK, .slice gN r40.Prefix.length gO, .slice jj r40.Last.length jk, .slice iL r40.Right.length iM, .slice fO r40.Rules.length fP, .int .i64 r40.Done] 29 (0, 0))] ++ A) w iL iM r40.Right ∧ ISl (rpRule) (bl [.blk B48 (.cells #[.int .i64 r40.Points, .bool r40.Monoid, .slice jh r40.Gens.length ji, .slice iJ r40.Elems.length iK, .slice gN r40.Prefix.length gO, .slice jj r40.Last.length jk, .slice iL r40.Right.length iM, .slice fO r40.Rules.length fP, .int .i64 r40.Done] 29 (0, 0))] ++ A) w fO fP r40.Rules ∧ Fr (bl []) w0 (bl [.blk B48 (.cells #[.int .i64 r40.Points, .bool r40.Monoid, .slice jh r40.Gens.length ji, .slice iJ r40.Elems.length iK, .slice gN r40.Prefix.length gO, .slice jj r40.Last.length jk, .slice iL r40.Right.length iM, .slice fO r40.Rules.length fP, .int .i64 r40.Done] 29 (0, 0))]) w) H ⟨⟨rfl, rfl, rfl, rfl, rfl, rfl, trivial⟩, hO, dG, dm, c5, dH, dn, cK, hB⟩ ?_
   intro X1
   refine prE fun b1_58 => fun k1_59 => ?_
   intro H hX1 σ w57
   refine andE fun hag => andE fun hO => andE fun dG => andE fun dm => andE fun c5 => andE fun dH => andE fun dn => andE fun cK => fun hB => ?_
   dsimp only at H
   refine Go1.keep [(2, .string (gstr a2)), (7, .pointer (some ⟨B48, 0, none⟩)), (9, .bool b1_58), (42, .slice fO r40.Rules.length fP), (43, .int .i64 (r40.Rules.length : Int)), (44, .int .i64 (k1_59 : Int))] hag ?_
   refine Go1.seq ?_
   refine Go1.region ?_
   by_cases h60 : (k1_59 : Int) < (r40.Rules.length : Int)
   ·replace H := ifp h60 H
    refine GoR.op ((fun w => opB (op_lss rfl rfl w) (decide_eq_true h60)) _) rfl rfl ?_
    refine GoR.nil ?_
    refine Go1.seq ?_
    refine Go1.condT rfl rfl ?_
    refine Go1.skip ?_
    refine Go1.seq ?_
    refine Go1.block ?_
    refine Go1.seq ?_
    refine Go1.region ?_
    obtain ⟨h61, H⟩ := H
    obtain ⟨h62, H⟩ := H
    refine GoR.op ((op_index Try.underlying27 ti39 rfl rfl h61 h62 (cK.some_ h61 h62)) _) rfl rfl ?_
    have hok63 := ldFlatOk cK h61 h62
    refine GoR.op ((ldFlat cK h61 h62 Try.underlying39 rfl ti39 rfl) _ (Same.refl _)) rfl rfl ?_
    have hobt := oalloc (t := 39) (cs := #[.string (gstr (([] : Str))), .string (gstr (([] : Str)))]) ti39 hO rfl
    obtain ⟨w64, B65, ue, Nl, GW⟩ := hobt
    refine GoR.op GW rfl rfl ?_
    replace hO := ue.own
    replace dG := dG.ch ue.ch
    replace dm := dm.ch ue.ch
    replace c5 := c5.ch ue.ch
    replace dH := dH.ch ue.ch
    replace dn := dn.ch ue.ch
    replace cK := cK.ch ue.ch
    replace hB := hB.trans ue.fr
    have hobt := oblkStAgg (us := [.string (gstr ((ix r40.Rules (k1_59 : Int)).Left)), .string (gstr ((ix r40.Rules (k1_59 : Int)).Right))]) (o := 0) (cs' := #[.string (gstr ((ix r40.Rules (k1_59 : Int)).Left)), .string (gstr ((ix r40.Rules (k1_59 : Int)).Right))]) 0 hO rfl rfl (Nat.le_of_ble_eq_true rfl) rfl
    obtain ⟨w70, kF, GX⟩ := hobt
    refine GoR.op (GX ti39 (by exact rfl) (by exact rfl) rfl) rfl rfl ?_
    replace hO := kF.own
    replace dG := dG.ch kF.ch
    replace dm := dm.ch kF.ch
    replace c5 := c5.ch kF.ch
    replace dH := dH.ch kF.ch
    replace dn := dn.ch kF.ch
    replace cK := cK.ch kF.ch
    replace hB := hB.trans kF.fr
    refine GoR.nil ?_
    refine Go1.region ?_
    refine GoR.op ((op_move rfl) _) rfl rfl ?_
    refine GoR.op ((op_move rfl) _) rfl rfl ?_
    cases b1_58
    ·replace H := ifn Bool.false_ne_true H
     refine GoR.pass rfl rfl ?_
     refine GoR.pass rfl rfl ?_
     refine GoR.pass rfl rfl ?_
     refine GoR.pass rfl rfl ?_
     refine GoR.pass rfl rfl ?_
     refine GoR.op ((op_pickF rfl rfl rfl) _) rfl rfl ?_
     refine GoR.op ((op_assign rfl) _) rfl rfl ?_
     refine GoR.nil ?_
     refine Go1.inBlock ?_
     refine Go1.region ?_
     refine GoR.op ((op_add rfl rfl (wrap_i64 (natbd h60 cK.bd))) _) rfl rfl ?_
     refine GoR.op ((op_move rfl) _) rfl rfl ?_
     refine GoR.nil ?_
     replace dG := dG.ch (Owns.dropCh _ _ 0)
     replace dm := dm.ch (Owns.dropCh _ _ 0)
     replace c5 := c5.ch (Owns.dropCh _ _ 0)
     replace dH := dH.ch (Owns.dropCh _ _ 0)
     replace dn := dn.ch (Owns.dropCh _ _ 0)
     replace cK := cK.ch (Owns.dropCh _ _ 0)
     replace hB := hB.trans (Owns.dropFr _ _ 0)
     replace hO := hO.drop 0
     exact hX1 _ H _ _ ⟨⟨rfl, rfl, rfl, rfl, rfl, rfl, trivial⟩, hO, dG, dm, c5, dH, dn, cK, hB⟩
    replace H := ifp rfl H
    refine GoR.op ((op_fieldAddr Try.underlying39 rfl ti9 rfl (by decide)) _) rfl rfl ?_
    refine GoR.op ((oblk (i := 0) 0 hO rfl rfl Try.underlying9 rfl rfl) _ (Same.refl _)) rfl rfl ?_
    refine GoR.op ((op_move rfl) _) rfl rfl ?_
    refine GoR.call (op_call body28 rfl (walk_ref01_IsFactor hO.lt hok63.1 ud H)) rfl rfl ?_
    rintro v77 w74 ⟨r73, rfl, IZ, H⟩
    have uf := Stp.same hO IZ
    replace hO := uf.own
    replace dG := dG.ch uf.ch
    replace dm := dm.ch uf.ch
    replace c5 := c5.ch uf.ch
    replace dH := dH.ch uf.ch
    replace dn := dn.ch uf.ch
    replace cK := cK.ch uf.ch
    replace hB := hB.trans uf.fr
    cases r73
    ·replace H := ifn Bool.false_ne_true H
     refine GoR.op ((op_not rfl) _) rfl rfl ?_
     refine GoR.op ((op_pickT rfl rfl rfl) _) rfl rfl ?_
     refine GoR.op ((op_assign rfl) _) rfl rfl ?_
     refine GoR.nil ?_
     refine Go1.inBlock ?_
     refine Go1.cut [(2, .string (gstr a2)), (7, .pointer (some ⟨B48, 0, none⟩)), (9, .bool true), (42, .slice fO r40.Rules.length fP), (43, .int .i64 (r40.Rules.length : Int)), (44, .int .i64 (k1_59 : Int))] ⟨rfl, rfl, rfl, rfl, rfl, rfl, trivial⟩ ?_
     intro σ _
     refine Go1.region ?_
     refine GoR.op ((op_add rfl rfl (wrap_i64 (natbd h60 cK.bd))) _) rfl rfl ?_
     refine GoR.op ((op_move rfl) _) rfl rfl ?_
     refine GoR.nil ?_
     replace dG := dG.ch (Owns.dropCh _ _ 0)
     replace dm := dm.ch (Owns.dropCh _ _ 0)
     replace c5 := c5.ch (Owns.dropCh _ _ 0)
     replace dH := dH.ch (Owns.dropCh _ _ 0)
     replace dn := dn.ch (Owns.dropCh _ _ 0)
     replace cK := cK.ch (Owns.dropCh _ _ 0)
     replace hB := hB.trans (Owns.dropFr _ _ 0)
     replace hO := hO.drop 0
     exact hX1 _ H _ _ ⟨⟨rfl, rfl, rfl, rfl, rfl, rfl, trivial⟩, hO, dG, dm, c5, dH, dn, cK, hB⟩
    replace H := ifp rfl H
    refine GoR.op ((op_not rfl) _) rfl rfl ?_
    refine GoR.op ((op_pickT rfl rfl rfl) _) rfl rfl ?_
    refine GoR.op ((op_assign rfl) _) rfl rfl ?_
    refine GoR.nil ?_
    refine Go1.inBlock ?_
    refine Go1.region ?_
    refine GoR.op ((op_add rfl rfl (wrap_i64 (natbd h60 cK.bd))) _) rfl rfl ?_
    refine GoR.op ((op_move rfl) _) rfl rfl ?_
    refine GoR.nil ?_
    replace dG := dG.ch (Owns.dropCh _ _ 0)
    replace dm := dm.ch (Owns.dropCh _ _ 0)
    replace c5 := c5.ch (Owns.dropCh _ _ 0)
    replace dH := dH.ch (Owns.dropCh _ _ 0)
    replace dn := dn.ch (Owns.dropCh _ _ 0)
    replace cK := cK.ch (Owns.dropCh _ _ 0)
    replace hB := hB.trans (Owns.dropFr _ _ 0)
    replace hO := hO.drop 0
    exact hX1 _ H _ _ ⟨⟨rfl, rfl, rfl, rfl, rfl, rfl, trivial⟩, hO, dG, dm, c5, dH, dn, cK, hB⟩
   replace H := ifn h60 H
   refine GoR.op ((fun w => opB (op_lss rfl rfl w) (decide_eq_false h60)) _) rfl rfl ?_
   refine GoR.nil ?_
   refine Go1.seq ?_
   refine Go1.condF rfl rfl ?_
   refine Go1.exit rfl ?_
   refine Go1.seq ?_
   refine Go1.drawS 0 [(0, .stable), (1, .stable), (2, .pure), (5, .pure), (7, .pure), (3, .loud), (4, .loud), (6, .pure), (8, .pure), (9, .pure), (10, .loud), (11, .pure), (12, .pure)] mixed (by kernel_rfl) ?_
   intro w79 I0
   have oU := Stp.same hO I0
   replace hO := oU.own
   replace dG := dG.ch oU.ch
   replace dm := dm.ch oU.ch
   replace c5 := c5.ch oU.ch
   replace dH := dH.ch oU.ch
   replace dn := dn.ch oU.ch
   replace cK := cK.ch oU.ch
   replace hB := hB.trans oU.fr
   refine GoQ.stable rfl (oblkAgg (vs := [.int .i64 r40.Points, .bool r40.Monoid, .slice jh r40.Gens.length ji, .slice iJ r40.Elems.length iK, .slice gN r40.Prefix.length gO, .slice jj r40.Last.length jk, .slice iL r40.Right.length iM, .slice fO r40.Rules.length fP, .int .i64 r40.Done]) (i := 0) 0 hO rfl rfl Try.underlying29 rfl ti29 rfl) rfl rfl ?_
   refine GoQ.stable rfl (oblkAgg (vs := [.int .i64 r40.Points, .bool r40.Monoid, .slice jh r40.Gens.length ji, .slice iJ r40.Elems.length iK, .slice gN r40.Prefix.length gO, .slice jj r40.Last.length jk, .slice iL r40.Right.length iM, .slice fO r40.Rules.length fP, .int .i64 r40.Done]) (i := 0) 0 hO rfl rfl Try.underlying29 rfl ti29 rfl) rfl rfl ?_
   refine GoQ.pure rfl (op_move rfl) rfl rfl ?_
   refine GoQ.pure rfl (op_move rfl) rfl rfl ?_
   refine GoQ.pure rfl (op_move rfl) rfl rfl ?_
   refine GoQ.call rfl (op_call body30 rfl (walk_enumerate_OfWord (e := r40) hO.lt dG dm c5 dH dn cK ud H)) (fun v w hr => by obtain ⟨_, _, hs, _⟩ := hr; assumption) rfl rfl ?_
   rintro v86 w83 ⟨r82, rfl, I1, H⟩
   have ug := Stp.same hO I1
   replace hO := ug.own
   replace dG := dG.ch ug.ch
   replace dm := dm.ch ug.ch
   replace c5 := c5.ch ug.ch
   replace dH := dH.ch ug.ch
   replace dn := dn.ch ug.ch
   replace cK := cK.ch ug.ch
   replace hB := hB.trans ug.fr
   refine GoQ.call rfl (op_call body29 rfl (walk_enumerate_Word (e := r40) hO.lt dG dm c5 dH dn cK H)) (fun v w hr => by obtain ⟨_, _, hs, _, _⟩ := hr; assumption) rfl rfl ?_
   rintro v92 w89 ⟨r88, rfl, I2, Jh, H⟩
   have uh := Stp.same hO I2
   replace hO := uh.own
   replace dG := dG.ch uh.ch
   replace dm := dm.ch uh.ch
   replace c5 := c5.ch uh.ch
   replace dH := dH.ch uh.ch
   replace dn := dn.ch uh.ch
   replace cK := cK.ch uh.ch
   replace hB := hB.trans uh.fr
   by_cases h94 : r88 = a2
   ·replace H := ifp h94 H
    refine GoQ.pure rfl (fun w => opB (op_eqlS rfl rfl w) (decide_eq_true h94)) rfl rfl ?_
    cases b1_58
    ·replace H := ifn Bool.false_ne_true H
     refine GoQ.pure rfl (op_eqlB Try.underlying4 rfl rfl) rfl rfl ?_
     refine GoQ.pure rfl (op_move rfl) rfl rfl ?_
     refine GoQ.pass rfl rfl rfl ?_
     refine GoQ.pure rfl (op_pickF rfl rfl rfl) rfl rfl ?_
     refine GoQ.pure rfl (op_assign rfl) rfl rfl ?_
     refine GoQ.nil ?_
     refine Go1.ret1 Try.func7 rfl ?_
     exact ⟨false, rfl, hB.same, H⟩
    replace H := ifp rfl H
    refine GoQ.pure rfl (op_eqlB Try.underlying4 rfl rfl) rfl rfl ?_
    refine GoQ.pure rfl (op_move rfl) rfl rfl ?_
    refine GoQ.call rfl (op_call body16 rfl (walk_law12_awake hO.lt H)) (fun v w hr => by obtain ⟨_, _, hs, _⟩ := hr; assumption) rfl rfl ?_
    rintro v99 w96 ⟨r95, rfl, I3, H⟩
    have ta := Stp.same hO I3
    replace hO := ta.own
    replace dG := dG.ch ta.ch
    replace dm := dm.ch ta.ch
    replace c5 := c5.ch ta.ch
    replace dH := dH.ch ta.ch
    replace dn := dn.ch ta.ch
    replace cK := cK.ch ta.ch
    replace hB := hB.trans ta.fr
    refine GoQ.pure rfl (op_pickT rfl rfl rfl) rfl rfl ?_
    refine GoQ.pure rfl (op_assign rfl) rfl rfl ?_
    refine GoQ.nil ?_
    refine Go1.ret1 Try.func7 rfl ?_
    exact ⟨r95, rfl, hB.same, H⟩
   replace H := ifn h94 H
   refine GoQ.pure rfl (fun w => opB (op_eqlS rfl rfl w) (decide_eq_false h94)) rfl rfl ?_
   cases b1_58
   ·replace H := ifn Bool.false_ne_true H
    refine GoQ.pure rfl (op_eqlB Try.underlying4 rfl rfl) rfl rfl ?_
    refine GoQ.pure rfl (op_move rfl) rfl rfl ?_
    refine GoQ.call rfl (op_call body16 rfl (walk_law12_awake hO.lt H)) (fun v w hr => by obtain ⟨_, _, hs, _⟩ := hr; assumption) rfl rfl ?_
    rintro Nm Nn ⟨r101, rfl, GY, H⟩
    have tc := Stp.same hO GY
    replace hO := tc.own
    replace dG := dG.ch tc.ch
    replace dm := dm.ch tc.ch
    replace c5 := c5.ch tc.ch
    replace dH := dH.ch tc.ch
    replace dn := dn.ch tc.ch
    replace cK := cK.ch tc.ch
    replace hB := hB.trans tc.fr
    refine GoQ.pure rfl (op_pickT rfl rfl rfl) rfl rfl ?_
    refine GoQ.pure rfl (op_assign rfl) rfl rfl ?_
    refine GoQ.nil ?_
    refine Go1.ret1 Try.func7 rfl ?_
    exact ⟨r101, rfl, hB.same, H⟩
   replace H := ifp rfl H
   refine GoQ.pure rfl (op_eqlB Try.underlying4 rfl rfl) rfl rfl ?_
   refine GoQ.pure rfl (op_move rfl) rfl rfl ?_
   refine GoQ.pass rfl rfl rfl ?_
   refine GoQ.pure rfl (op_pickF rfl rfl rfl) rfl rfl ?_
   refine GoQ.pure rfl (op_assign rfl) rfl rfl ?_
   refine GoQ.nil ?_
   refine Go1.ret1 Try.func7 rfl ?_
   exact ⟨false, rfl, hB.same, H⟩
  replace H := ifn h56 H
  refine GoR.op ((fun w => opB (op_neq rfl rfl w) (ndF h56)) _) rfl rfl ?_
  refine GoR.nil ?_
  refine Go1.condT rfl rfl ?_
  refine Go1.seq ?_
  refine Go1.cut [] trivial ?_
  intro σ _
  refine Go1.region ?_
  refine GoR.op ((op_assign rfl) _) rfl rfl ?_
  refine GoR.nil ?_
  refine Go1.ret1 Try.func7 rfl ?_
  exact ⟨false, rfl, hB.same, H⟩
 replace H := ifn h13 H
 refine GoR.op ((op_maxF rfl rfl h13) _) rfl rfl ?_
 refine GoR.call (op_call body27 rfl (walk_ref01_Valid hO.lt ud H)) rfl rfl ?_
 rintro Np Nq ⟨r107, rfl, GZ, H⟩
 have yj := Stp.same hO GZ
 replace hO := yj.own
 replace b7 := b7.ch yj.ch
 replace hB := hB.trans yj.fr
 cases r107
 ·replace H := ifn Bool.false_ne_true H
  refine GoR.op ((op_not rfl) _) rfl rfl ?_
  refine GoR.op ((op_pickF rfl rfl rfl) _) rfl rfl ?_
  refine GoR.op ((op_move rfl) _) rfl rfl ?_
  refine GoR.pass rfl rfl ?_
  refine GoR.pass rfl rfl ?_
  refine GoR.op ((op_pickT rfl rfl rfl) _) rfl rfl ?_
  refine GoR.op ((op_move rfl) _) rfl rfl ?_
  refine GoR.pass rfl rfl ?_
  refine GoR.pass rfl rfl ?_
  refine GoR.pass rfl rfl ?_
  refine GoR.op ((op_pickT rfl rfl rfl) _) rfl rfl ?_
  refine GoR.nil ?_
  refine Go1.condT rfl rfl ?_
  refine Go1.seq ?_
  refine Go1.region ?_
  refine GoR.call (op_call body16 rfl (walk_law12_awake hO.lt H)) rfl rfl ?_
  rintro Nr Ns ⟨r113, rfl, G0, H⟩
  have yk := Stp.same hO G0
  replace hO := yk.own
  replace b7 := b7.ch yk.ch
  replace hB := hB.trans yk.fr
  refine GoR.op ((op_assign rfl) _) rfl rfl ?_
  refine GoR.nil ?_
  refine Go1.ret1 Try.func7 rfl ?_
  exact ⟨r113, rfl, hB.same, H⟩
 replace H := ifp rfl H
 refine GoR.op ((op_not rfl) _) rfl rfl ?_
 refine GoR.op ((op_pickF rfl rfl rfl) _) rfl rfl ?_
 refine GoR.op ((op_move rfl) _) rfl rfl ?_
 refine GoR.op ((op_move rfl) _) rfl rfl ?_
 by_cases zI : a2 = (([] : Str))
 ·replace H := ifp zI H
  refine GoR.op ((fun w => opB (op_eqlS rfl rfl w) (decide_eq_true zI)) _) rfl rfl ?_
  refine GoR.op ((op_pickF rfl rfl rfl) _) rfl rfl ?_
  refine GoR.op ((op_move rfl) _) rfl rfl ?_
  refine GoR.pass rfl rfl ?_
  refine GoR.pass rfl rfl ?_
  refine GoR.pass rfl rfl ?_
  refine GoR.op ((op_pickT rfl rfl rfl) _) rfl rfl ?_
  refine GoR.nil ?_
  refine Go1.condT rfl rfl ?_
  refine Go1.seq ?_
  refine Go1.cut [] trivial ?_
  intro σ _
  refine Go1.region ?_
  refine GoR.call (op_call body16 rfl (walk_law12_awake hO.lt H)) rfl rfl ?_
  rintro Nt Nu ⟨r120, rfl, G1, H⟩
  have yl := Stp.same hO G1
  replace hO := yl.own
  replace b7 := b7.ch yl.ch
  replace hB := hB.trans yl.fr
  refine GoR.op ((op_assign rfl) _) rfl rfl ?_
  refine GoR.nil ?_
  refine Go1.ret1 Try.func7 rfl ?_
  exact ⟨r120, rfl, hB.same, H⟩
 replace H := ifn zI H
 refine GoR.op ((fun w => opB (op_eqlS rfl rfl w) (decide_eq_false zI)) _) rfl rfl ?_
 refine GoR.op ((op_pickF rfl rfl rfl) _) rfl rfl ?_
 refine GoR.op ((op_move rfl) _) rfl rfl ?_
 refine GoR.op ((op_move rfl) _) rfl rfl ?_
 refine GoR.op ((op_lenS Try.underlying9 rfl) _) rfl rfl ?_
 replace H := H ud
 by_cases zJ : (40 : Int) < (a2.length : Int)
 ·replace H := ifp zJ H
  refine GoR.op ((fun w => opB (op_gtr rfl rfl w) (decide_eq_true zJ)) _) rfl rfl ?_
  refine GoR.op ((op_pickF rfl rfl rfl) _) rfl rfl ?_
  refine GoR.nil ?_
  refine Go1.condT rfl rfl ?_
  refine Go1.seq ?_
  refine Go1.region ?_
  refine GoR.call (op_call body16 rfl (walk_law12_awake hO.lt H)) rfl rfl ?_
  rintro Nv Nw ⟨r127, rfl, G3, H⟩
  have ym := Stp.same hO G3
  replace hO := ym.own
  replace b7 := b7.ch ym.ch
  replace hB := hB.trans ym.fr
  refine GoR.op ((op_assign rfl) _) rfl rfl ?_
  refine GoR.nil ?_
  refine Go1.ret1 Try.func7 rfl ?_
  exact ⟨r127, rfl, hB.same, H⟩
 replace H := ifn zJ H
 refine GoR.op ((fun w => opB (op_gtr rfl rfl w) (decide_eq_false zJ)) _) rfl rfl ?_
 refine GoR.op ((op_pickF rfl rfl rfl) _) rfl rfl ?_
 refine GoR.nil ?_
 refine Go1.condF rfl rfl ?_
 refine Go1.skip ?_
 refine Go1.seq ?_
 refine Go1.region ?_
 refine GoR.op ((op_move rfl) _) rfl rfl ?_
 refine GoR.op ((op_move rfl) _) rfl rfl ?_
 refine GoR.call (op_call body17 rfl (walk_enumerate_Build hO.lt b7 H)) rfl rfl ?_
 rintro Nx Ny ⟨r133, r134, iN, iO, gP, gQ, fU, fV, iP, iQ, gR, gS, fC, fD, rfl, G4, dp, c6, cQ, dq, c7, cx, H⟩
 have jr := Stp.same hO G4
 replace hO := jr.own
 replace b7 := b7.ch jr.ch
 replace hB := hB.trans jr.fr
 refine GoR.op ((op_move rfl) _) rfl rfl ?_
 refine GoR.op ((op_extract rfl rfl) _) rfl rfl ?_
 refine GoR.op ((op_extract rfl rfl) _) rfl rfl ?_
 have hobt := oalloc (t := 29) (cs := #[.int .i64 (0 : Int), .bool false, .slice none 0 0, .slice none 0 0, .slice none 0 0, .slice none 0 0, .slice none 0 0, .slice none 0 0, .int .i64 (0 : Int)]) ti29 hO rfl
 obtain ⟨IB, B141, ss, A8, Ds⟩ := hobt
 refine GoR.op Ds rfl rfl ?_
 replace hO := ss.own
 replace b7 := b7.ch ss.ch
 replace dp := dp.ch ss.ch
 replace c6 := c6.ch ss.ch
 replace cQ := cQ.ch ss.ch
 replace dq := dq.ch ss.ch
 replace c7 := c7.ch ss.ch
 replace cx := cx.ch ss.ch
 replace hB := hB.trans ss.fr
 have hobt := oblkStAgg (us := [.int .i64 r133.Points, .bool r133.Monoid, .slice iN r133.Gens.length iO, .slice gP r133.Elems.length gQ, .slice fU r133.Prefix.length fV, .slice iP r133.Last.length iQ, .slice gR r133.Right.length gS, .slice fC r133.Rules.length fD, .int .i64 r133.Done]) (o := 0) (cs' := #[.int .i64 r133.Points, .bool r133.Monoid, .slice iN r133.Gens.length iO, .slice gP r133.Elems.length gQ, .slice fU r133.Prefix.length fV, .slice iP r133.Last.length iQ, .slice gR r133.Right.length gS, .slice fC r133.Rules.length fD, .int .i64 r133.Done]) 0 hO rfl rfl (Nat.le_of_ble_eq_true rfl) rfl
 obtain ⟨Nz, su, Dt⟩ := hobt
 refine GoR.op (Dt ti29 (by exact rfl) (by exact rfl) rfl) rfl rfl ?_
 replace hO := su.own
 replace b7 := b7.ch su.ch
 replace dp := dp.ch su.ch
 replace c6 := c6.ch su.ch
 replace cQ := cQ.ch su.ch
 replace dq := dq.ch su.ch
 replace c7 := c7.ch su.ch
 replace cx := cx.ch su.ch
 replace hB := hB.trans su.fr
 refine GoR.op ((op_assign rfl) _) rfl rfl ?_
 refine GoR.nil ?_
 refine Go1.seq ?_
 refine Go1.seq ?_
 refine Go1.cut [(2, .string (gstr a2)), (7, .pointer (some ⟨B141, 0, none⟩)), (8, .int .i64 r134)] ⟨rfl, rfl, rfl, trivial⟩ ?_
 intro σ _
 refine Go1.region ?_
 refine GoR.op ((op_move rfl) _) rfl rfl ?_
 by_cases u7 : r134 = (0 : Int)
 ·replace H := ifp u7 H
  refine GoR.op ((fun w => opB (op_neq rfl rfl w) (ndT u7)) _) rfl rfl ?_
  refine GoR.nil ?_
  refine Go1.condF rfl rfl ?_
  refine Go1.skip ?_
  refine Go1.seq ?_
  refine Go1.region ?_
  refine GoR.op ((op_assign rfl) _) rfl rfl ?_
  refine GoR.nil ?_
  refine Go1.seq ?_
  refine Go1.seq ?_
  refine Go1.region ?_
  refine GoR.op ((op_fieldAddr Try.underlying29 rfl ti27 rfl (by decide)) _) rfl rfl ?_
  refine GoR.op ((oblk (i := 7) 0 hO rfl rfl Try.underlying27 rfl rfl) _ (Same.refl _)) rfl rfl ?_
  refine GoR.op ((op_len Try.underlying27 rfl) _) rfl rfl ?_
  replace H := H cx.bd
  refine GoR.op ((op_move rfl) _) rfl rfl ?_
  refine GoR.nil ?_
  refine Go1.block ?_
  refine Go1.loopW (S := Bool × Nat) (fun s σ w => match s with | (b2_151, k2_152) => agrees σ [(2, .string (gstr a2)), (7, .pointer (some ⟨B141, 0, none⟩)), (9, .bool b2_151), (42, .slice fC r133.Rules.length fD), (43, .int .i64 (r133.Rules.length : Int)), (44, .int .i64 (k2_152 : Int))] ∧ Owns w0.heap.size w [.blk B141 (.cells #[.int .i64 r133.Points, .bool r133.Monoid, .slice iN r133.Gens.length iO, .slice gP r133.Elems.length gQ, .slice fU r133.Prefix.length fV, .slice iP r133.Last.length iQ, .slice gR r133.Right.length gS, .slice fC r133.Rules.length fD, .int .i64 r133.Done] 29 (0, 0))] A ∧ ISl (Rp.sl (Rp.int .i64)) (bl [.blk B141 (.cells #[.int .i64 r133.Points, .bool r133.Monoid, .slice iN r133.Gens.length iO, .slice gP r133.Elems.length gQ, .slice fU r133.Prefix.length fV, .slice iP r133.Last.length iQ, .slice gR r133.Right.length gS, .slice fC r133.Rules.length fD, .int .i64 r133.Done] 29 (0, 0))] ++ A) w iN iO r133.Gens ∧ ISl (Rp.sl (Rp.int .i64)) (bl [.blk B141 (.cells #[.int .i64 r133.Points, .bool r133.Monoid, .slice iN r133.Gens.length iO, .slice gP r133.Elems.length gQ, .slice fU r133.Prefix.length fV, .slice iP r133.Last.length iQ, .slice gR r133.Right.length gS, .slice fC r133.Rules.length fD, .int .i64 r133.Done] 29 (0, 0))] ++ A) w gP gQ r133.Elems ∧ ISl (Rp.int .i64) (bl [.blk B141 (.cells #[.int .i64 r133.Points, .bool r133.Monoid, .slice iN r133.Gens.length iO, .slice gP r133.Elems.length gQ, .slice fU r133.Prefix.length fV, .slice iP r133.Last.length iQ, .slice gR r133.Right.length gS, .slice fC r133.Rules.length fD, .int .i64 r133.Done] 29 (0, 0))] ++ A) w fU fV r133.Prefix ∧ ISl (Rp.int .i64) (bl [.blk B141 (.cells #[.int .i64 r133.Points, .bool r133.Monoid, .slice iN r133.Gens.length iO, .slice gP r133.Elems.length gQ, .slice fU r133.Prefix.length fV, .slice iP r133.Last.length iQ, .slice gR r133.Right.length gS, .slice fC r133.Rules.length fD, .int .i64 r133.Done] 29 (0, 0))] ++ A) w iP iQ r133.Last ∧ ISl (Rp.sl (Rp.int .i64)) (bl [.blk B141 (.cells #[.int .i64 r133.Points, .bool r133.Monoid, .slice iN r133.Gens.length iO, .slice gP r133.Elems.length gQ, .slice fU r133.Prefix.length fV, .slice iP r133.Last.length iQ, .slice gR r133.Right.length gS, .slice fC r133.Rules.length fD, .int .i64 r133.Done] 29 (0, 0))] ++ A) w gR gS r133.Right ∧ ISl (rpRule) (bl [.blk B141 (.cells #[.int .i64 r133.Points, .bool r133.Monoid, .slice iN r133.Gens.length iO, .slice gP r133.Elems.length gQ, .slice fU r133.Prefix.length fV, .slice iP r133.Last.length iQ, .slice gR r133.Right.length gS, .slice fC r133.Rules.length fD, .int .i64 r133.Done] 29 (0, 0))] ++ A) w fC fD r133.Rules ∧ Fr (bl []) w0 (bl [.blk B141 (.cells #[.int .i64 r133.Points, .bool r133.Monoid, .slice iN r133.Gens.length iO, .slice gP r133.Elems.length gQ, .slice fU r133.Prefix.length fV, .slice iP r133.Last.length iQ, .slice gR r133.Right.length gS, .slice fC r133.Rules.length fD, .int .i64 r133.Done] 29 (0, 0))]) w) H ⟨⟨rfl, rfl, rfl, rfl, rfl, rfl, trivial⟩, hO, dp, c6, cQ, dq, c7, cx, hB⟩ ?_
  intro X2
  refine prE fun b2_151 => fun k2_152 => ?_
  intro H hX2 σ Ie
  refine andE fun hag => andE fun hO => andE fun dp => andE fun c6 => andE fun cQ => andE fun dq => andE fun c7 => andE fun cx => fun hB => ?_
  dsimp only at H
  refine Go1.keep [(2, .string (gstr a2)), (7, .pointer (some ⟨B141, 0, none⟩)), (9, .bool b2_151), (42, .slice fC r133.Rules.length fD), (43, .int .i64 (r133.Rules.length : Int)), (44, .int .i64 (k2_152 : Int))] hag ?_
  refine Go1.seq ?_
  refine Go1.region ?_
  by_cases wz : (k2_152 : Int) < (r133.Rules.length : Int)
  ·replace H := ifp wz H
   refine GoR.op ((fun w => opB (op_lss rfl rfl w) (decide_eq_true wz)) _) rfl rfl ?_
   refine GoR.nil ?_
   refine Go1.seq ?_
   refine Go1.condT rfl rfl ?_
   refine Go1.skip ?_
   refine Go1.seq ?_
   refine Go1.block ?_
   refine Go1.seq ?_
   refine Go1.region ?_
   obtain ⟨tD, H⟩ := H
   obtain ⟨tm, H⟩ := H
   refine GoR.op ((op_index Try.underlying27 ti39 rfl rfl tD tm (cx.some_ tD tm)) _) rfl rfl ?_
   have hok156 := ldFlatOk cx tD tm
   refine GoR.op ((ldFlat cx tD tm Try.underlying39 rfl ti39 rfl) _ (Same.refl _)) rfl rfl ?_
   have hobt := oalloc (t := 39) (cs := #[.string (gstr (([] : Str))), .string (gstr (([] : Str)))]) ti39 hO rfl
   obtain ⟨Ig, B158, iT, JO, x7⟩ := hobt
   refine GoR.op x7 rfl rfl ?_
   replace hO := iT.own
   replace dp := dp.ch iT.ch
   replace c6 := c6.ch iT.ch
   replace cQ := cQ.ch iT.ch
   replace dq := dq.ch iT.ch
   replace c7 := c7.ch iT.ch
   replace cx := cx.ch iT.ch
   replace hB := hB.trans iT.fr
   have hobt := oblkStAgg (us := [.string (gstr ((ix r133.Rules (k2_152 : Int)).Left)), .string (gstr ((ix r133.Rules (k2_152 : Int)).Right))]) (o := 0) (cs' := #[.string (gstr ((ix r133.Rules (k2_152 : Int)).Left)), .string (gstr ((ix r133.Rules (k2_152 : Int)).Right))]) 0 hO rfl rfl (Nat.le_of_ble_eq_true rfl) rfl
   obtain ⟨NA, g0, Du⟩ := hobt
   refine GoR.op (Du ti39 (by exact rfl) (by exact rfl) rfl) rfl rfl ?_
   replace hO := g0.own
   replace dp := dp.ch g0.ch
   replace c6 := c6.ch g0.ch
   replace cQ := cQ.ch g0.ch
   replace dq := dq.ch g0.ch
   replace c7 := c7.ch g0.ch
   replace cx := cx.ch g0.ch
   replace hB := hB.trans g0.fr
   refine GoR.nil ?_
   refine Go1.region ?_
   refine GoR.op ((op_move rfl) _) rfl rfl ?_
   refine GoR.op ((op_move rfl) _) rfl rfl ?_
   cases b2_151
   ·replace H := ifn Bool.false_ne_true H
    refine GoR.pass rfl rfl ?_
    refine GoR.pass rfl rfl ?_
    refine GoR.pass rfl rfl ?_
    refine GoR.pass rfl rfl ?_
    refine GoR.pass rfl rfl ?_
    refine GoR.op ((op_pickF rfl rfl rfl) _) rfl rfl ?_
    refine GoR.op ((op_assign rfl) _) rfl rfl ?_
    refine GoR.nil ?_
    refine Go1.inBlock ?_
    refine Go1.region ?_
    refine GoR.op ((op_add rfl rfl (wrap_i64 (natbd wz cx.bd))) _) rfl rfl ?_
    refine GoR.op ((op_move rfl) _) rfl rfl ?_
    refine GoR.nil ?_
    replace dp := dp.ch (Owns.dropCh _ _ 0)
    replace c6 := c6.ch (Owns.dropCh _ _ 0)
    replace cQ := cQ.ch (Owns.dropCh _ _ 0)
    replace dq := dq.ch (Owns.dropCh _ _ 0)
    replace c7 := c7.ch (Owns.dropCh _ _ 0)
    replace cx := cx.ch (Owns.dropCh _ _ 0)
    replace hB := hB.trans (Owns.dropFr _ _ 0)
    replace hO := hO.drop 0
    exact hX2 _ H _ _ ⟨⟨rfl, rfl, rfl, rfl, rfl, rfl, trivial⟩, hO, dp, c6, cQ, dq, c7, cx, hB⟩
   replace H := ifp rfl H
   refine GoR.op ((op_fieldAddr Try.underlying39 rfl ti9 rfl (by decide)) _) rfl rfl ?_
   refine GoR.op ((oblk (i := 0) 0 hO rfl rfl Try.underlying9 rfl rfl) _ (Same.refl _)) rfl rfl ?_
   refine GoR.op ((op_move rfl) _) rfl rfl ?_
   refine GoR.call (op_call body28 rfl (walk_ref01_IsFactor hO.lt hok156.1 ud H)) rfl rfl ?_
   rintro NB NC ⟨r166, rfl, G5, H⟩
   have te := Stp.same hO G5
   replace hO := te.own
   replace dp := dp.ch te.ch
   replace c6 := c6.ch te.ch
   replace cQ := cQ.ch te.ch
   replace dq := dq.ch te.ch
   replace c7 := c7.ch te.ch
   replace cx := cx.ch te.ch
   replace hB := hB.trans te.fr
   cases r166
   ·replace H := ifn Bool.false_ne_true H
    refine GoR.op ((op_not rfl) _) rfl rfl ?_
    refine GoR.op ((op_pickT rfl rfl rfl) _) rfl rfl ?_
    refine GoR.op ((op_assign rfl) _) rfl rfl ?_
    refine GoR.nil ?_
    refine Go1.inBlock ?_
    refine Go1.cut [(2, .string (gstr a2)), (7, .pointer (some ⟨B141, 0, none⟩)), (9, .bool true), (42, .slice fC r133.Rules.length fD), (43, .int .i64 (r133.Rules.length : Int)), (44, .int .i64 (k2_152 : Int))] ⟨rfl, rfl, rfl, rfl, rfl, rfl, trivial⟩ ?_
    intro σ _
    refine Go1.region ?_
    refine GoR.op ((op_add rfl rfl (wrap_i64 (natbd wz cx.bd))) _) rfl rfl ?_
    refine GoR.op ((op_move rfl) _) rfl rfl ?_
    refine GoR.nil ?_
    replace dp := dp.ch (Owns.dropCh _ _ 0)
    replace c6 := c6.ch (Owns.dropCh _ _ 0)
    replace cQ := cQ.ch (Owns.dropCh _ _ 0)
    replace dq := dq.ch (Owns.dropCh _ _ 0)
    replace c7 := c7.ch (Owns.dropCh _ _ 0)
    replace cx := cx.ch (Owns.dropCh _ _ 0)
    replace hB := hB.trans (Owns.dropFr _ _ 0)
    replace hO := hO.drop 0
    exact hX2 _ H _ _ ⟨⟨rfl, rfl, rfl, rfl, rfl, rfl, trivial⟩, hO, dp, c6, cQ, dq, c7, cx, hB⟩
   replace H := ifp rfl H
   refine GoR.op ((op_not rfl) _) rfl rfl ?_
   refine GoR.op ((op_pickT rfl rfl rfl) _) rfl rfl ?_
   refine GoR.op ((op_assign rfl) _) rfl rfl ?_
   refine GoR.nil ?_
   refine Go1.inBlock ?_
   refine Go1.region ?_
   refine GoR.op ((op_add rfl rfl (wrap_i64 (natbd wz cx.bd))) _) rfl rfl ?_
   refine GoR.op ((op_move rfl) _) rfl rfl ?_
   refine GoR.nil ?_
   replace dp := dp.ch (Owns.dropCh _ _ 0)
   replace c6 := c6.ch (Owns.dropCh _ _ 0)
   replace cQ := cQ.ch (Owns.dropCh _ _ 0)
   replace dq := dq.ch (Owns.dropCh _ _ 0)
   replace c7 := c7.ch (Owns.dropCh _ _ 0)
   replace cx := cx.ch (Owns.dropCh _ _ 0)
   replace hB := hB.trans (Owns.dropFr _ _ 0)
   replace hO := hO.drop 0
   exact hX2 _ H _ _ ⟨⟨rfl, rfl, rfl, rfl, rfl, rfl, trivial⟩, hO, dp, c6, cQ, dq, c7, cx, hB⟩
  replace H := ifn wz H
  refine GoR.op ((fun w => opB (op_lss rfl rfl w) (decide_eq_false wz)) _) rfl rfl ?_
  refine GoR.nil ?_
  refine Go1.seq ?_
  refine Go1.condF rfl rfl ?_
  refine Go1.exit rfl ?_
  refine Go1.seq ?_
  refine Go1.drawS 0 [(0, .stable), (1, .stable), (2, .pure), (5, .pure), (7, .pure), (3, .loud), (4, .loud), (6, .pure), (8, .pure), (9, .pure), (10, .loud), (11, .pure), (12, .pure)] mixed (by kernel_rfl) ?_
  intro ND G6
  have tf := Stp.same hO G6
  replace hO := tf.own
  replace dp := dp.ch tf.ch
  replace c6 := c6.ch tf.ch
  replace cQ := cQ.ch tf.ch
  replace dq := dq.ch tf.ch
  replace c7 := c7.ch tf.ch
  replace cx := cx.ch tf.ch
  replace hB := hB.trans tf.fr
  refine GoQ.stable rfl (oblkAgg (vs := [.int .i64 r133.Points, .bool r133.Monoid, .slice iN r133.Gens.length iO, .slice gP r133.Elems.length gQ, .slice fU r133.Prefix.length fV, .slice iP r133.Last.length iQ, .slice gR r133.Right.length gS, .slice fC r133.Rules.length fD, .int .i64 r133.Done]) (i := 0) 0 hO rfl rfl Try.underlying29 rfl ti29 rfl) rfl rfl ?_
  refine GoQ.stable rfl (oblkAgg (vs := [.int .i64 r133.Points, .bool r133.Monoid, .slice iN r133.Gens.length iO, .slice gP r133.Elems.length gQ, .slice fU r133.Prefix.length fV, .slice iP r133.Last.length iQ, .slice gR r133.Right.length gS, .slice fC r133.Rules.length fD, .int .i64 r133.Done]) (i := 0) 0 hO rfl rfl Try.underlying29 rfl ti29 rfl) rfl rfl ?_
  refine GoQ.pure rfl (op_move rfl) rfl rfl ?_
  refine GoQ.pure rfl (op_move rfl) rfl rfl ?_
  refine GoQ.pure rfl (op_move rfl) rfl rfl ?_
  refine GoQ.call rfl (op_call body30 rfl (walk_enumerate_OfWord (e := r133) hO.lt dp c6 cQ dq c7 cx ud H)) (fun v w hr => by obtain ⟨_, _, hs, _⟩ := hr; assumption) rfl rfl ?_
  rintro NE Ih ⟨r175, rfl, y5, H⟩
  have tg := Stp.same hO y5
  replace hO := tg.own
  replace dp := dp.ch tg.ch
  replace c6 := c6.ch tg.ch
  replace cQ := cQ.ch tg.ch
  replace dq := dq.ch tg.ch
  replace c7 := c7.ch tg.ch
  replace cx := cx.ch tg.ch
  replace hB := hB.trans tg.fr
  refine GoQ.call rfl (op_call body29 rfl (walk_enumerate_Word (e := r133) hO.lt dp c6 cQ dq c7 cx H)) (fun v w hr => by obtain ⟨_, _, hs, _, _⟩ := hr; assumption) rfl rfl ?_
  rintro NF Ii ⟨r181, rfl, G7, Jd, H⟩
  have th := Stp.same hO G7
  replace hO := th.own
  replace dp := dp.ch th.ch
  replace c6 := c6.ch th.ch
  replace cQ := cQ.ch th.ch
  replace dq := dq.ch th.ch
  replace c7 := c7.ch th.ch
  replace cx := cx.ch th.ch
  replace hB := hB.trans th.fr
  by_cases zK : r181 = a2
  ·replace H := ifp zK H
   refine GoQ.pure rfl (fun w => opB (op_eqlS rfl rfl w) (decide_eq_true zK)) rfl rfl ?_
   cases b2_151
   ·replace H := ifn Bool.false_ne_true H
    refine GoQ.pure rfl (op_eqlB Try.underlying4 rfl rfl) rfl rfl ?_
    refine GoQ.pure rfl (op_move rfl) rfl rfl ?_
    refine GoQ.pass rfl rfl rfl ?_
    refine GoQ.pure rfl (op_pickF rfl rfl rfl) rfl rfl ?_
    refine GoQ.pure rfl (op_assign rfl) rfl rfl ?_
    refine GoQ.nil ?_
    refine Go1.ret1 Try.func7 rfl ?_
    exact ⟨false, rfl, hB.same, H⟩
   replace H := ifp rfl H
   refine GoQ.pure rfl (op_eqlB Try.underlying4 rfl rfl) rfl rfl ?_
   refine GoQ.pure rfl (op_move rfl) rfl rfl ?_
   refine GoQ.call rfl (op_call body16 rfl (walk_law12_awake hO.lt H)) (fun v w hr => by obtain ⟨_, _, hs, _⟩ := hr; assumption) rfl rfl ?_
   rintro NG NH ⟨r188, rfl, G8, H⟩
   have tj := Stp.same hO G8
   replace hO := tj.own
   replace dp := dp.ch tj.ch
   replace c6 := c6.ch tj.ch
   replace cQ := cQ.ch tj.ch
   replace dq := dq.ch tj.ch
   replace c7 := c7.ch tj.ch
   replace cx := cx.ch tj.ch
   replace hB := hB.trans tj.fr
   refine GoQ.pure rfl (op_pickT rfl rfl rfl) rfl rfl ?_
   refine GoQ.pure rfl (op_assign rfl) rfl rfl ?_
   refine GoQ.nil ?_
   refine Go1.ret1 Try.func7 rfl ?_
   exact ⟨r188, rfl, hB.same, H⟩
  replace H := ifn zK H
  refine GoQ.pure rfl (fun w => opB (op_eqlS rfl rfl w) (decide_eq_false zK)) rfl rfl ?_
  cases b2_151
  ·replace H := ifn Bool.false_ne_true H
   refine GoQ.pure rfl (op_eqlB Try.underlying4 rfl rfl) rfl rfl ?_
   refine GoQ.pure rfl (op_move rfl) rfl rfl ?_
   refine GoQ.call rfl (op_call body16 rfl (walk_law12_awake hO.lt H)) (fun v w hr => by obtain ⟨_, _, hs, _⟩ := hr; assumption) rfl rfl ?_
   rintro NI NJ ⟨r194, rfl, G9, H⟩
   have tk := Stp.same hO G9
   replace hO := tk.own
   replace dp := dp.ch tk.ch
   replace c6 := c6.ch tk.ch
   replace cQ := cQ.ch tk.ch
   replace dq := dq.ch tk.ch
   replace c7 := c7.ch tk.ch
   replace cx := cx.ch tk.ch
   replace hB := hB.trans tk.fr
   refine GoQ.pure rfl (op_pickT rfl rfl rfl) rfl rfl ?_
   refine GoQ.pure rfl (op_assign rfl) rfl rfl ?_
   refine GoQ.nil ?_
   refine Go1.ret1 Try.func7 rfl ?_
   exact ⟨r194, rfl, hB.same, H⟩
  replace H := ifp rfl H
  refine GoQ.pure rfl (op_eqlB Try.underlying4 rfl rfl) rfl rfl ?_
  refine GoQ.pure rfl (op_move rfl) rfl rfl ?_
  refine GoQ.pass rfl rfl rfl ?_
  refine GoQ.pure rfl (op_pickF rfl rfl rfl) rfl rfl ?_
  refine GoQ.pure rfl (op_assign rfl) rfl rfl ?_
  refine GoQ.nil ?_
  refine Go1.ret1 Try.func7 rfl ?_
  exact ⟨false, rfl, hB.same, H⟩
 replace H := ifn u7 H
 refine GoR.op ((fun w => opB (op_neq rfl rfl w) (ndF u7)) _) rfl rfl ?_
 refine GoR.nil ?_
 refine Go1.condT rfl rfl ?_
 refine Go1.seq ?_
 refine Go1.cut [] trivial ?_
 intro σ _
 refine Go1.region ?_
 refine GoR.op ((op_assign rfl) _) rfl rfl ?_
 refine GoR.nil ?_
 refine Go1.ret1 Try.func7 rfl ?_
 exact ⟨false, rfl, hB.same, H⟩
end Sg
