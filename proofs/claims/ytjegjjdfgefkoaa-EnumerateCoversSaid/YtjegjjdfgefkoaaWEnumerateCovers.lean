/- The walks: each call keeps to its plain transformer. Printed by walkgen.py. -/
import Derived.Test.YtjegjjdfgefkoaaTi
import Derived.Test.YtjegjjdfgefkoaaWEnumerateBuilds
import Derived.Test.YtjegjjdfgefkoaaWEnumerateBuildsb
import Derived.Test.YtjegjjdfgefkoaaWEnumerateBuildsc
import Derived.Test.YtjegjjdfgefkoaaWEnumerateBuildsd
namespace Sg
open Go Go.RowKit Go.Proofs
set_option linter.unusedVariables false
set_option linter.unusedSimpArgs false
set_option maxRecDepth 100000
set_option maxHeartbeats 4000000
theorem body56 : Body Try.prog 56 := ⟨Try.f56, Try.func56, rfl, by kernel_rfl⟩
theorem walk_ref01_MayLetters {A : List Nat} {w0 : World} {letters : Int} (hA : ∀ b ∈ A, b < w0.heap.size) {K : Bool → Prop} (H : ref01_MayLetters letters K) :
    CallsV Try.prog 56 #[.int .i64 letters] w0 (fun v w' => ∃ (r0 : Bool), v = .bool r0 ∧ Same w0 w' ∧ K r0) := by
 refine CallsV.of (l := [.int .i64 letters]) Try.func56 rfl Try.ntmps56 rfl ?_
 have hO := Owns.start hA
 have hB := Fr.refl (bl []) w0
 unfold ref01_MayLetters at H
 refine Go1.seq ?_
 refine Go1.region ?_
 refine GoR.op ((op_assign rfl) _) rfl rfl ?_
 refine GoR.nil ?_
 refine Go1.seq ?_
 refine Go1.region ?_
 refine GoR.op ((op_move rfl) _) rfl rfl ?_
 by_cases h1 : (1 : Int) ≤ letters
 ·replace H := ifp h1 H
  refine GoR.op ((fun w => opB (op_geq rfl rfl w) (decide_eq_true h1)) _) rfl rfl ?_
  refine GoR.op ((op_move rfl) _) rfl rfl ?_
  refine GoR.op ((op_move rfl) _) rfl rfl ?_
  by_cases h2 : letters ≤ (6 : Int)
  ·replace H := ifp h2 H
   refine GoR.op ((fun w => opB (op_leq rfl rfl w) (decide_eq_true h2)) _) rfl rfl ?_
   refine GoR.op ((op_pickT rfl rfl rfl) _) rfl rfl ?_
   refine GoR.op ((op_assign rfl) _) rfl rfl ?_
   refine GoR.nil ?_
   refine Go1.ret1 Try.func56 rfl ?_
   exact ⟨true, rfl, hB.same, H⟩
  replace H := ifn h2 H
  refine GoR.op ((fun w => opB (op_leq rfl rfl w) (decide_eq_false h2)) _) rfl rfl ?_
  refine GoR.op ((op_pickT rfl rfl rfl) _) rfl rfl ?_
  refine GoR.op ((op_assign rfl) _) rfl rfl ?_
  refine GoR.nil ?_
  refine Go1.ret1 Try.func56 rfl ?_
  exact ⟨false, rfl, hB.same, H⟩
 replace H := ifn h1 H
 refine GoR.op ((fun w => opB (op_geq rfl rfl w) (decide_eq_false h1)) _) rfl rfl ?_
 refine GoR.op ((op_move rfl) _) rfl rfl ?_
 refine GoR.pass rfl rfl ?_
 refine GoR.pass rfl rfl ?_
 refine GoR.op ((op_pickF rfl rfl rfl) _) rfl rfl ?_
 refine GoR.op ((op_assign rfl) _) rfl rfl ?_
 refine GoR.nil ?_
 refine Go1.ret1 Try.func56 rfl ?_
 exact ⟨false, rfl, hB.same, H⟩
theorem body27 : Body Try.prog 27 := ⟨Try.f27, Try.func27, rfl, by kernel_rfl⟩
theorem walk_ref01_Valid {A : List Nat} {w0 : World} {w_ : Str} {letters : Int} (hA : ∀ b ∈ A, b < w0.heap.size) (nt : w_.length ≤ mx) {K : Bool → Prop} (H : ref01_Valid w_ letters K) :
    CallsV Try.prog 27 #[.string (gstr w_), .int .i64 letters] w0 (fun v w' => ∃ (r0 : Bool), v = .bool r0 ∧ Same w0 w' ∧ K r0) := by
 refine CallsV.of (l := [.string (gstr w_), .int .i64 letters]) Try.func27 rfl Try.ntmps27 rfl ?_
 have hO := Owns.start hA
 have hB := Fr.refl (bl []) w0
 unfold ref01_Valid at H
 refine Go1.seq ?_
 refine Go1.region ?_
 refine GoR.op ((op_assign rfl) _) rfl rfl ?_
 refine GoR.nil ?_
 refine Go1.seq ?_
 refine Go1.seq ?_
 refine Go1.region ?_
 refine GoR.op ((op_move rfl) _) rfl rfl ?_
 refine GoR.call (op_call body56 rfl (walk_ref01_MayLetters hO.lt H)) rfl rfl ?_
 rintro v5 w2 ⟨r1, rfl, hs3, H⟩
 have sd := Stp.same hO hs3
 replace hO := sd.own
 replace hB := hB.trans sd.fr
 cases r1
 ·replace H := ifn Bool.false_ne_true H
  refine GoR.op ((op_not rfl) _) rfl rfl ?_
  refine GoR.op ((op_move rfl) _) rfl rfl ?_
  refine GoR.pass rfl rfl ?_
  refine GoR.pass rfl rfl ?_
  refine GoR.pass rfl rfl ?_
  refine GoR.op ((op_pickT rfl rfl rfl) _) rfl rfl ?_
  refine GoR.nil ?_
  refine Go1.condT rfl rfl ?_
  refine Go1.seq ?_
  refine Go1.region ?_
  refine GoR.op ((op_assign rfl) _) rfl rfl ?_
  refine GoR.nil ?_
  refine Go1.ret1 Try.func27 rfl ?_
  exact ⟨false, rfl, hB.same, H⟩
 replace H := ifp rfl H
 refine GoR.op ((op_not rfl) _) rfl rfl ?_
 refine GoR.op ((op_move rfl) _) rfl rfl ?_
 refine GoR.op ((op_move rfl) _) rfl rfl ?_
 refine GoR.op ((op_lenS Try.underlying9 rfl) _) rfl rfl ?_
 replace H := H nt
 by_cases h7 : (2048 : Int) < (w_.length : Int)
 ·replace H := ifp h7 H
  refine GoR.op ((fun w => opB (op_gtr rfl rfl w) (decide_eq_true h7)) _) rfl rfl ?_
  refine GoR.op ((op_pickF rfl rfl rfl) _) rfl rfl ?_
  refine GoR.nil ?_
  refine Go1.condT rfl rfl ?_
  refine Go1.seq ?_
  refine Go1.region ?_
  refine GoR.op ((op_assign rfl) _) rfl rfl ?_
  refine GoR.nil ?_
  refine Go1.ret1 Try.func27 rfl ?_
  exact ⟨false, rfl, hB.same, H⟩
 replace H := ifn h7 H
 refine GoR.op ((fun w => opB (op_gtr rfl rfl w) (decide_eq_false h7)) _) rfl rfl ?_
 refine GoR.op ((op_pickF rfl rfl rfl) _) rfl rfl ?_
 refine GoR.nil ?_
 refine Go1.condF rfl rfl ?_
 refine Go1.skip ?_
 refine Go1.seq ?_
 refine Go1.seq ?_
 refine Go1.cut [(0, .string (gstr w_)), (1, .int .i64 letters)] ⟨rfl, rfl, trivial⟩ ?_
 intro σ _
 refine Go1.region ?_
 refine GoR.op ((op_assign rfl) _) rfl rfl ?_
 refine GoR.nil ?_
 refine Go1.block ?_
 refine Go1.loopW (S := Nat) (fun s σ w => agrees σ [(0, .string (gstr w_)), (1, .int .i64 letters), (5, .int .i64 (s : Int))] ∧ Owns w0.heap.size w [] A ∧ Fr (bl []) w0 (bl []) w) H ⟨⟨rfl, rfl, rfl, trivial⟩, hO, hB⟩ ?_
 intro X1 i1_9
 intro H hX1 σ w8
 refine andE fun hag => andE fun hO => fun hB => ?_
 refine Go1.keep [(0, .string (gstr w_)), (1, .int .i64 letters), (5, .int .i64 (i1_9 : Int))] hag ?_
 refine Go1.seq ?_
 refine Go1.seq ?_
 refine Go1.region ?_
 refine GoR.op ((op_move rfl) _) rfl rfl ?_
 refine GoR.op ((op_move rfl) _) rfl rfl ?_
 refine GoR.op ((op_lenS Try.underlying9 rfl) _) rfl rfl ?_
 by_cases h10 : (i1_9 : Int) < (w_.length : Int)
 ·replace H := ifp h10 H
  refine GoR.op ((fun w => opB (op_lss rfl rfl w) (decide_eq_true h10)) _) rfl rfl ?_
  refine GoR.nil ?_
  refine Go1.condT rfl rfl ?_
  refine Go1.skip ?_
  refine Go1.seq ?_
  refine Go1.block ?_
  refine Go1.seq ?_
  refine Go1.region ?_
  refine GoR.op ((op_move rfl) _) rfl rfl ?_
  refine GoR.op ((op_move rfl) _) rfl rfl ?_
  obtain ⟨h11, H⟩ := H
  obtain ⟨h12, H⟩ := H
  refine GoR.op ((op_indexS Try.underlying9 rfl rfl h11 h12) _) rfl rfl ?_
  by_cases h13 : ((ix w_ (i1_9 : Int)).toNat : Int) < (97 : Int)
  ·replace H := ifp h13 H
   refine GoR.op ((fun w => opB (op_lss rfl rfl w) (decide_eq_true h13)) _) rfl rfl ?_
   refine GoR.op ((op_move rfl) _) rfl rfl ?_
   refine GoR.pass rfl rfl ?_
   refine GoR.pass rfl rfl ?_
   refine GoR.pass rfl rfl ?_
   refine GoR.pass rfl rfl ?_
   refine GoR.pass rfl rfl ?_
   refine GoR.pass rfl rfl ?_
   refine GoR.pass rfl rfl ?_
   refine GoR.op ((op_pickT rfl rfl rfl) _) rfl rfl ?_
   refine GoR.nil ?_
   refine Go1.condT rfl rfl ?_
   refine Go1.seq ?_
   refine Go1.region ?_
   refine GoR.op ((op_assign rfl) _) rfl rfl ?_
   refine GoR.nil ?_
   refine Go1.ret1 Try.func27 rfl ?_
   exact ⟨false, rfl, hB.same, H⟩
  replace H := ifn h13 H
  refine GoR.op ((fun w => opB (op_lss rfl rfl w) (decide_eq_false h13)) _) rfl rfl ?_
  refine GoR.op ((op_move rfl) _) rfl rfl ?_
  refine GoR.op ((op_move rfl) _) rfl rfl ?_
  refine GoR.op ((op_move rfl) _) rfl rfl ?_
  obtain ⟨h14, H⟩ := H
  obtain ⟨h15, H⟩ := H
  refine GoR.op ((op_indexS Try.underlying9 rfl rfl h14 h15) _) rfl rfl ?_
  refine GoR.op ((op_sub rfl rfl rfl) _) rfl rfl ?_
  refine GoR.op ((op_conv Try.underlying5 Try.underlying3 rfl rfl) _) rfl rfl ?_
  refine GoR.op ((op_move rfl) _) rfl rfl ?_
  by_cases h16 : letters ≤ (IntKind.i64.wrap (IntKind.u8.wrap (((ix w_ (i1_9 : Int)).toNat : Int) - (97 : Int))))
  ·replace H := ifp h16 H
   refine GoR.op ((fun w => opB (op_geq rfl rfl w) (decide_eq_true h16)) _) rfl rfl ?_
   refine GoR.op ((op_pickF rfl rfl rfl) _) rfl rfl ?_
   refine GoR.nil ?_
   refine Go1.condT rfl rfl ?_
   refine Go1.seq ?_
   refine Go1.cut [] trivial ?_
   intro σ _
   refine Go1.region ?_
   refine GoR.op ((op_assign rfl) _) rfl rfl ?_
   refine GoR.nil ?_
   refine Go1.ret1 Try.func27 rfl ?_
   exact ⟨false, rfl, hB.same, H⟩
  replace H := ifn h16 H
  refine GoR.op ((fun w => opB (op_geq rfl rfl w) (decide_eq_false h16)) _) rfl rfl ?_
  refine GoR.op ((op_pickF rfl rfl rfl) _) rfl rfl ?_
  refine GoR.nil ?_
  refine Go1.condF rfl rfl ?_
  refine Go1.skip ?_
  refine Go1.inBlock ?_
  refine Go1.region ?_
  refine GoR.op ((op_move rfl) _) rfl rfl ?_
  refine GoR.op ((op_add rfl rfl (wrap_i64 (natbd h10 nt))) _) rfl rfl ?_
  refine GoR.op ((op_assign rfl) _) rfl rfl ?_
  refine GoR.nil ?_
  exact hX1 _ H _ _ ⟨⟨rfl, rfl, rfl, trivial⟩, hO, hB⟩
 replace H := ifn h10 H
 refine GoR.op ((fun w => opB (op_lss rfl rfl w) (decide_eq_false h10)) _) rfl rfl ?_
 refine GoR.nil ?_
 refine Go1.condF rfl rfl ?_
 refine Go1.exit rfl ?_
 refine Go1.seq ?_
 refine Go1.region ?_
 refine GoR.op ((op_assign rfl) _) rfl rfl ?_
 refine GoR.nil ?_
 refine Go1.ret1 Try.func27 rfl ?_
 exact ⟨true, rfl, hB.same, H⟩
theorem body28 : Body Try.prog 28 := ⟨Try.f28, Try.func28, rfl, by kernel_rfl⟩
theorem walk_ref01_IsFactor {A : List Nat} {w0 : World} {u : Str} {w_ : Str} (hA : ∀ b ∈ A, b < w0.heap.size) (Iv : u.length ≤ mx) (nt : w_.length ≤ mx) {K : Bool → Prop} (H : ref01_IsFactor u w_ K) :
    CallsV Try.prog 28 #[.string (gstr u), .string (gstr w_)] w0 (fun v w' => ∃ (r0 : Bool), v = .bool r0 ∧ Same w0 w' ∧ K r0) := by
 refine CallsV.of (l := [.string (gstr u), .string (gstr w_)]) Try.func28 rfl Try.ntmps28 rfl ?_
 have hO := Owns.start hA
 have hB := Fr.refl (bl []) w0
 unfold ref01_IsFactor at H
 refine Go1.seq ?_
 refine Go1.region ?_
 refine GoR.op ((op_assign rfl) _) rfl rfl ?_
 refine GoR.nil ?_
 refine Go1.seq ?_
 refine Go1.seq ?_
 refine Go1.region ?_
 refine GoR.op ((op_assign rfl) _) rfl rfl ?_
 refine GoR.nil ?_
 refine Go1.block ?_
 refine Go1.loopW (S := Nat) (fun s σ w => agrees σ [(0, .string (gstr u)), (1, .string (gstr w_)), (5, .int .i64 (s : Int))] ∧ Owns w0.heap.size w [] A ∧ Fr (bl []) w0 (bl []) w) H ⟨⟨rfl, rfl, rfl, trivial⟩, hO, hB⟩ ?_
 intro X1 i1_2
 intro H hX1 σ w1
 refine andE fun hag => andE fun hO => fun hB => ?_
 refine Go1.keep [(0, .string (gstr u)), (1, .string (gstr w_)), (5, .int .i64 (i1_2 : Int))] hag ?_
 refine Go1.seq ?_
 refine Go1.seq ?_
 refine Go1.region ?_
 refine GoR.op ((op_move rfl) _) rfl rfl ?_
 refine GoR.op ((op_move rfl) _) rfl rfl ?_
 refine GoR.op ((op_lenS Try.underlying9 rfl) _) rfl rfl ?_
 replace H := H Iv
 obtain ⟨h3, H⟩ := H
 refine GoR.op ((op_add rfl rfl (wrap_i64 h3)) _) rfl rfl ?_
 refine GoR.op ((op_move rfl) _) rfl rfl ?_
 refine GoR.op ((op_lenS Try.underlying9 rfl) _) rfl rfl ?_
 replace H := H nt
 by_cases h4 : ((i1_2 : Int) + (u.length : Int)) ≤ (w_.length : Int)
 ·replace H := ifp h4 H
  refine GoR.op ((fun w => opB (op_leq rfl rfl w) (decide_eq_true h4)) _) rfl rfl ?_
  refine GoR.nil ?_
  refine Go1.condT rfl rfl ?_
  refine Go1.skip ?_
  refine Go1.seq ?_
  refine Go1.block ?_
  refine Go1.seq ?_
  refine Go1.region ?_
  refine GoR.op ((op_move rfl) _) rfl rfl ?_
  refine GoR.op ((op_move rfl) _) rfl rfl ?_
  refine GoR.op ((op_move rfl) _) rfl rfl ?_
  refine GoR.op ((op_move rfl) _) rfl rfl ?_
  refine GoR.op ((op_lenS Try.underlying9 rfl) _) rfl rfl ?_
  obtain ⟨h5, H⟩ := H
  refine GoR.op ((op_add rfl rfl (wrap_i64 h5)) _) rfl rfl ?_
  obtain ⟨h6, H⟩ := H
  obtain ⟨h7, H⟩ := H
  obtain ⟨h8, H⟩ := H
  refine GoR.op ((op_sliceS2 Try.underlying9 rfl rfl rfl h6 h7 h8) _) rfl rfl ?_
  refine GoR.op ((op_move rfl) _) rfl rfl ?_
  by_cases h9 : ((w_.drop (i1_2 : Int).toNat).take (((i1_2 : Int) + (u.length : Int)).toNat - (i1_2 : Int).toNat)) = u
  ·replace H := ifp h9 H
   refine GoR.op ((fun w => opB (op_eqlS rfl rfl w) (decide_eq_true h9)) _) rfl rfl ?_
   refine GoR.nil ?_
   refine Go1.condT rfl rfl ?_
   refine Go1.seq ?_
   refine Go1.region ?_
   refine GoR.op ((op_assign rfl) _) rfl rfl ?_
   refine GoR.nil ?_
   refine Go1.ret1 Try.func28 rfl ?_
   exact ⟨true, rfl, hB.same, H⟩
  replace H := ifn h9 H
  refine GoR.op ((fun w => opB (op_eqlS rfl rfl w) (decide_eq_false h9)) _) rfl rfl ?_
  refine GoR.nil ?_
  refine Go1.condF rfl rfl ?_
  refine Go1.skip ?_
  refine Go1.inBlock ?_
  refine Go1.region ?_
  refine GoR.op ((op_move rfl) _) rfl rfl ?_
  obtain ⟨h10, H⟩ := H
  refine GoR.op ((op_add rfl rfl (wrap_i64 h10)) _) rfl rfl ?_
  refine GoR.op ((op_assign rfl) _) rfl rfl ?_
  refine GoR.nil ?_
  exact hX1 _ H _ _ ⟨⟨rfl, rfl, rfl, trivial⟩, hO, hB⟩
 replace H := ifn h4 H
 refine GoR.op ((fun w => opB (op_leq rfl rfl w) (decide_eq_false h4)) _) rfl rfl ?_
 refine GoR.nil ?_
 refine Go1.condF rfl rfl ?_
 refine Go1.exit rfl ?_
 refine Go1.seq ?_
 refine Go1.cut [] trivial ?_
 intro σ _
 refine Go1.region ?_
 refine GoR.op ((op_assign rfl) _) rfl rfl ?_
 refine GoR.nil ?_
 refine Go1.ret1 Try.func28 rfl ?_
 exact ⟨false, rfl, hB.same, H⟩
theorem body58 : Body Try.prog 58 := ⟨Try.f58, Try.func58, rfl, by kernel_rfl⟩
theorem walk_word_Valid {A : List Nat} {w0 : World} {w_ : Str} {letters : Int} (hA : ∀ b ∈ A, b < w0.heap.size) (nt : w_.length ≤ mx) {K : Bool → Prop} (H : word_Valid w_ letters K) :
    CallsV Try.prog 58 #[.string (gstr w_), .int .i64 letters] w0 (fun v w' => ∃ (r0 : Bool), v = .bool r0 ∧ Same w0 w' ∧ K r0) := by
 refine CallsV.of (l := [.string (gstr w_), .int .i64 letters]) Try.func58 rfl Try.ntmps58 rfl ?_
 have hO := Owns.start hA
 have hB := Fr.refl (bl []) w0
 unfold word_Valid at H
 refine Go1.seq ?_
 refine Go1.region ?_
 refine GoR.op ((op_assign rfl) _) rfl rfl ?_
 refine GoR.nil ?_
 refine Go1.seq ?_
 refine Go1.seq ?_
 refine Go1.region ?_
 refine GoR.op ((op_move rfl) _) rfl rfl ?_
 by_cases h1 : letters < (1 : Int)
 ·replace H := ifp h1 H
  refine GoR.op ((fun w => opB (op_lss rfl rfl w) (decide_eq_true h1)) _) rfl rfl ?_
  refine GoR.op ((op_move rfl) _) rfl rfl ?_
  refine GoR.pass rfl rfl ?_
  refine GoR.pass rfl rfl ?_
  refine GoR.op ((op_pickT rfl rfl rfl) _) rfl rfl ?_
  refine GoR.op ((op_move rfl) _) rfl rfl ?_
  refine GoR.pass rfl rfl ?_
  refine GoR.pass rfl rfl ?_
  refine GoR.pass rfl rfl ?_
  refine GoR.op ((op_pickT rfl rfl rfl) _) rfl rfl ?_
  refine GoR.nil ?_
  refine Go1.condT rfl rfl ?_
  refine Go1.seq ?_
  refine Go1.region ?_
  refine GoR.op ((op_assign rfl) _) rfl rfl ?_
  refine GoR.nil ?_
  refine Go1.ret1 Try.func58 rfl ?_
  exact ⟨false, rfl, hB.same, H⟩
 replace H := ifn h1 H
 refine GoR.op ((fun w => opB (op_lss rfl rfl w) (decide_eq_false h1)) _) rfl rfl ?_
 refine GoR.op ((op_move rfl) _) rfl rfl ?_
 refine GoR.op ((op_move rfl) _) rfl rfl ?_
 by_cases h2 : (6 : Int) < letters
 ·replace H := ifp h2 H
  refine GoR.op ((fun w => opB (op_gtr rfl rfl w) (decide_eq_true h2)) _) rfl rfl ?_
  refine GoR.op ((op_pickF rfl rfl rfl) _) rfl rfl ?_
  refine GoR.op ((op_move rfl) _) rfl rfl ?_
  refine GoR.pass rfl rfl ?_
  refine GoR.pass rfl rfl ?_
  refine GoR.pass rfl rfl ?_
  refine GoR.op ((op_pickT rfl rfl rfl) _) rfl rfl ?_
  refine GoR.nil ?_
  refine Go1.condT rfl rfl ?_
  refine Go1.seq ?_
  refine Go1.cut [] trivial ?_
  intro σ _
  refine Go1.region ?_
  refine GoR.op ((op_assign rfl) _) rfl rfl ?_
  refine GoR.nil ?_
  refine Go1.ret1 Try.func58 rfl ?_
  exact ⟨false, rfl, hB.same, H⟩
 replace H := ifn h2 H
 refine GoR.op ((fun w => opB (op_gtr rfl rfl w) (decide_eq_false h2)) _) rfl rfl ?_
 refine GoR.op ((op_pickF rfl rfl rfl) _) rfl rfl ?_
 refine GoR.op ((op_move rfl) _) rfl rfl ?_
 refine GoR.op ((op_move rfl) _) rfl rfl ?_
 refine GoR.op ((op_lenS Try.underlying9 rfl) _) rfl rfl ?_
 replace H := H nt
 by_cases h3 : (2048 : Int) < (w_.length : Int)
 ·replace H := ifp h3 H
  refine GoR.op ((fun w => opB (op_gtr rfl rfl w) (decide_eq_true h3)) _) rfl rfl ?_
  refine GoR.op ((op_pickF rfl rfl rfl) _) rfl rfl ?_
  refine GoR.nil ?_
  refine Go1.condT rfl rfl ?_
  refine Go1.seq ?_
  refine Go1.region ?_
  refine GoR.op ((op_assign rfl) _) rfl rfl ?_
  refine GoR.nil ?_
  refine Go1.ret1 Try.func58 rfl ?_
  exact ⟨false, rfl, hB.same, H⟩
 replace H := ifn h3 H
 refine GoR.op ((fun w => opB (op_gtr rfl rfl w) (decide_eq_false h3)) _) rfl rfl ?_
 refine GoR.op ((op_pickF rfl rfl rfl) _) rfl rfl ?_
 refine GoR.nil ?_
 refine Go1.condF rfl rfl ?_
 refine Go1.skip ?_
 refine Go1.seq ?_
 refine Go1.seq ?_
 refine Go1.region ?_
 refine GoR.op ((op_move rfl) _) rfl rfl ?_
 refine GoR.op ((op_lenS Try.underlying9 rfl) _) rfl rfl ?_
 refine GoR.op ((op_move rfl) _) rfl rfl ?_
 refine GoR.nil ?_
 refine Go1.block ?_
 refine Go1.loopW (S := Nat) (fun s σ w => agrees σ [(0, .string (gstr w_)), (1, .int .i64 letters), (18, .int .i64 (w_.length : Int)), (19, .int .i64 (s : Int))] ∧ Owns w0.heap.size w [] A ∧ Fr (bl []) w0 (bl []) w) H ⟨⟨rfl, rfl, rfl, rfl, trivial⟩, hO, hB⟩ ?_
 intro X1 k1_5
 intro H hX1 σ w4
 refine andE fun hag => andE fun hO => fun hB => ?_
 refine Go1.keep [(0, .string (gstr w_)), (1, .int .i64 letters), (18, .int .i64 (w_.length : Int)), (19, .int .i64 (k1_5 : Int))] hag ?_
 refine Go1.seq ?_
 refine Go1.region ?_
 by_cases h6 : (k1_5 : Int) < (w_.length : Int)
 ·replace H := ifp h6 H
  refine GoR.op ((fun w => opB (op_lss rfl rfl w) (decide_eq_true h6)) _) rfl rfl ?_
  refine GoR.nil ?_
  refine Go1.seq ?_
  refine Go1.condT rfl rfl ?_
  refine Go1.skip ?_
  refine Go1.seq ?_
  refine Go1.block ?_
  refine Go1.seq ?_
  refine Go1.region ?_
  refine GoR.op ((op_move rfl) _) rfl rfl ?_
  refine GoR.op ((op_assign rfl) _) rfl rfl ?_
  refine GoR.nil ?_
  refine Go1.seq ?_
  refine Go1.region ?_
  refine GoR.op ((op_move rfl) _) rfl rfl ?_
  refine GoR.op ((op_move rfl) _) rfl rfl ?_
  obtain ⟨h7, H⟩ := H
  obtain ⟨h8, H⟩ := H
  refine GoR.op ((op_indexS Try.underlying9 rfl rfl h7 h8) _) rfl rfl ?_
  by_cases h9 : ((ix w_ (k1_5 : Int)).toNat : Int) < (97 : Int)
  ·replace H := ifp h9 H
   refine GoR.op ((fun w => opB (op_lss rfl rfl w) (decide_eq_true h9)) _) rfl rfl ?_
   refine GoR.op ((op_move rfl) _) rfl rfl ?_
   refine GoR.pass rfl rfl ?_
   refine GoR.pass rfl rfl ?_
   refine GoR.pass rfl rfl ?_
   refine GoR.pass rfl rfl ?_
   refine GoR.pass rfl rfl ?_
   refine GoR.pass rfl rfl ?_
   refine GoR.pass rfl rfl ?_
   refine GoR.op ((op_pickT rfl rfl rfl) _) rfl rfl ?_
   refine GoR.nil ?_
   refine Go1.condT rfl rfl ?_
   refine Go1.seq ?_
   refine Go1.region ?_
   refine GoR.op ((op_assign rfl) _) rfl rfl ?_
   refine GoR.nil ?_
   refine Go1.ret1 Try.func58 rfl ?_
   exact ⟨false, rfl, hB.same, H⟩
  replace H := ifn h9 H
  refine GoR.op ((fun w => opB (op_lss rfl rfl w) (decide_eq_false h9)) _) rfl rfl ?_
  refine GoR.op ((op_move rfl) _) rfl rfl ?_
  refine GoR.op ((op_move rfl) _) rfl rfl ?_
  refine GoR.op ((op_move rfl) _) rfl rfl ?_
  obtain ⟨h10, H⟩ := H
  obtain ⟨h11, H⟩ := H
  refine GoR.op ((op_indexS Try.underlying9 rfl rfl h10 h11) _) rfl rfl ?_
  refine GoR.op ((op_sub rfl rfl rfl) _) rfl rfl ?_
  refine GoR.op ((op_conv Try.underlying5 Try.underlying3 rfl rfl) _) rfl rfl ?_
  refine GoR.op ((op_move rfl) _) rfl rfl ?_
  by_cases h12 : letters ≤ (IntKind.i64.wrap (IntKind.u8.wrap (((ix w_ (k1_5 : Int)).toNat : Int) - (97 : Int))))
  ·replace H := ifp h12 H
   refine GoR.op ((fun w => opB (op_geq rfl rfl w) (decide_eq_true h12)) _) rfl rfl ?_
   refine GoR.op ((op_pickF rfl rfl rfl) _) rfl rfl ?_
   refine GoR.nil ?_
   refine Go1.condT rfl rfl ?_
   refine Go1.seq ?_
   refine Go1.cut [] trivial ?_
   intro σ _
   refine Go1.region ?_
   refine GoR.op ((op_assign rfl) _) rfl rfl ?_
   refine GoR.nil ?_
   refine Go1.ret1 Try.func58 rfl ?_
   exact ⟨false, rfl, hB.same, H⟩
  replace H := ifn h12 H
  refine GoR.op ((fun w => opB (op_geq rfl rfl w) (decide_eq_false h12)) _) rfl rfl ?_
  refine GoR.op ((op_pickF rfl rfl rfl) _) rfl rfl ?_
  refine GoR.nil ?_
  refine Go1.condF rfl rfl ?_
  refine Go1.skip ?_
  refine Go1.inBlock ?_
  refine Go1.region ?_
  refine GoR.op ((op_add rfl rfl (wrap_i64 (natbd h6 nt))) _) rfl rfl ?_
  refine GoR.op ((op_move rfl) _) rfl rfl ?_
  refine GoR.nil ?_
  exact hX1 _ H _ _ ⟨⟨rfl, rfl, rfl, rfl, trivial⟩, hO, hB⟩
 replace H := ifn h6 H
 refine GoR.op ((fun w => opB (op_lss rfl rfl w) (decide_eq_false h6)) _) rfl rfl ?_
 refine GoR.nil ?_
 refine Go1.seq ?_
 refine Go1.condF rfl rfl ?_
 refine Go1.exit rfl ?_
 refine Go1.seq ?_
 refine Go1.region ?_
 refine GoR.op ((op_assign rfl) _) rfl rfl ?_
 refine GoR.nil ?_
 refine Go1.ret1 Try.func58 rfl ?_
 exact ⟨true, rfl, hB.same, H⟩
theorem body59 : Body Try.prog 59 := ⟨Try.f59, Try.func59, rfl, by kernel_rfl⟩
theorem body57 : Body Try.prog 57 := ⟨Try.f57, Try.func57, rfl, by kernel_rfl⟩
theorem body30 : Body Try.prog 30 := ⟨Try.f30, Try.func30, rfl, by kernel_rfl⟩
theorem walk_enumerate_OfWord {A : List Nat} {w0 : World} {bp : Option Addr} {bq : Nat} {aO : Option Addr} {aP : Nat} {ar : Option Addr} {au : Nat} {bg : Option Addr} {bh : Nat} {aQ : Option Addr} {aR : Nat} {aS : Option Addr} {aT : Nat} {e : Enum} {w_ : Str} (hA : ∀ b ∈ A, b < w0.heap.size) (ah : ISl (Rp.sl (Rp.int .i64)) A w0 bp bq e.Gens) (ae : ISl (Rp.sl (Rp.int .i64)) A w0 aO aP e.Elems) (ad : ISl (Rp.int .i64) A w0 ar au e.Prefix) (ai : ISl (Rp.int .i64) A w0 bg bh e.Last) (af : ISl (Rp.sl (Rp.int .i64)) A w0 aQ aR e.Right) (ag : ISl (rpRule) A w0 aS aT e.Rules) (nt : w_.length ≤ mx) {K : Int → Prop} (H : enumerate_OfWord e w_ K) :
    CallsV Try.prog 30 #[.agg #[.int .i64 e.Points, .bool e.Monoid, .slice bp e.Gens.length bq, .slice aO e.Elems.length aP, .slice ar e.Prefix.length au, .slice bg e.Last.length bh, .slice aQ e.Right.length aR, .slice aS e.Rules.length aT, .int .i64 e.Done], .string (gstr w_)] w0 (fun v w' => ∃ (r0 : Int), v = .int .i64 r0 ∧ Same w0 w' ∧ K r0) := by
 refine CallsV.of (l := [.agg #[.int .i64 e.Points, .bool e.Monoid, .slice bp e.Gens.length bq, .slice aO e.Elems.length aP, .slice ar e.Prefix.length au, .slice bg e.Last.length bh, .slice aQ e.Right.length aR, .slice aS e.Rules.length aT, .int .i64 e.Done], .string (gstr w_)]) Try.func30 rfl Try.ntmps30 rfl ?_
 have hO := Owns.start hA
 have hB := Fr.refl (bl []) w0
 unfold enumerate_OfWord at H
 replace ah := ah.ch (Ch.start A w0)
 replace ae := ae.ch (Ch.start A w0)
 replace ad := ad.ch (Ch.start A w0)
 replace ai := ai.ch (Ch.start A w0)
 replace af := af.ch (Ch.start A w0)
 replace ag := ag.ch (Ch.start A w0)
 refine Go1.seq ?_
 refine Go1.region ?_
 have hobt := obox (t := 29) (v := .agg #[.int .i64 e.Points, .bool e.Monoid, .slice bp e.Gens.length bq, .slice aO e.Elems.length aP, .slice ar e.Prefix.length au, .slice bg e.Last.length bh, .slice aQ e.Right.length aR, .slice aS e.Rules.length aT, .int .i64 e.Done]) (cs := #[.int .i64 e.Points, .bool e.Monoid, .slice bp e.Gens.length bq, .slice aO e.Elems.length aP, .slice ar e.Prefix.length au, .slice bg e.Last.length bh, .slice aQ e.Right.length aR, .slice aS e.Rules.length aT, .int .i64 e.Done]) hO rfl
 obtain ⟨w1, B2, jj, hs4, vZ⟩ := hobt
 refine GoR.op (vZ rfl) rfl rfl ?_
 replace hO := jj.own
 replace ah := ah.ch jj.ch
 replace ae := ae.ch jj.ch
 replace ad := ad.ch jj.ch
 replace ai := ai.ch jj.ch
 replace af := af.ch jj.ch
 replace ag := ag.ch jj.ch
 replace hB := hB.trans jj.fr
 refine GoR.op ((op_assign rfl) _) rfl rfl ?_
 refine GoR.nil ?_
 refine Go1.seq ?_
 refine Go1.region ?_
 refine GoR.op ((oblkAgg (vs := [.int .i64 e.Points, .bool e.Monoid, .slice bp e.Gens.length bq, .slice aO e.Elems.length aP, .slice ar e.Prefix.length au, .slice bg e.Last.length bh, .slice aQ e.Right.length aR, .slice aS e.Rules.length aT, .int .i64 e.Done]) (i := 0) 0 hO rfl rfl Try.underlying29 rfl ti29 rfl) _ (Same.refl _)) rfl rfl ?_
 refine GoR.inl (vs := [.agg #[.int .i64 e.Points, .bool e.Monoid, .slice bp e.Gens.length bq, .slice aO e.Elems.length aP, .slice ar e.Prefix.length au, .slice bg e.Last.length bh, .slice aQ e.Right.length aR, .slice aS e.Rules.length aT, .int .i64 e.Done]]) (caps := []) rfl rfl body57 Try.func57 rfl Try.ntmps57 rfl rfl rfl ?_
 intro RhR7 hR7
 refine Go1.seq ?_
 refine Go1.region ?_
 have hobt := obox (t := 29) (v := .agg #[.int .i64 e.Points, .bool e.Monoid, .slice bp e.Gens.length bq, .slice aO e.Elems.length aP, .slice ar e.Prefix.length au, .slice bg e.Last.length bh, .slice aQ e.Right.length aR, .slice aS e.Rules.length aT, .int .i64 e.Done]) (cs := #[.int .i64 e.Points, .bool e.Monoid, .slice bp e.Gens.length bq, .slice aO e.Elems.length aP, .slice ar e.Prefix.length au, .slice bg e.Last.length bh, .slice aQ e.Right.length aR, .slice aS e.Rules.length aT, .int .i64 e.Done]) hO rfl
 obtain ⟨w8, B9, rI, uT, Gx⟩ := hobt
 refine GoR.op (Gx rfl) rfl rfl ?_
 replace hO := rI.own
 replace ah := ah.ch rI.ch
 replace ae := ae.ch rI.ch
 replace ad := ad.ch rI.ch
 replace ai := ai.ch rI.ch
 replace af := af.ch rI.ch
 replace ag := ag.ch rI.ch
 replace hB := hB.trans rI.fr
 refine GoR.op ((op_assign rfl) _) rfl rfl ?_
 refine GoR.op ((op_assign rfl) _) rfl rfl ?_
 refine GoR.nil ?_
 refine Go1.seq ?_
 refine Go1.region ?_
 refine GoR.op ((oblkAgg (vs := [.int .i64 e.Points, .bool e.Monoid, .slice bp e.Gens.length bq, .slice aO e.Elems.length aP, .slice ar e.Prefix.length au, .slice bg e.Last.length bh, .slice aQ e.Right.length aR, .slice aS e.Rules.length aT, .int .i64 e.Done]) (i := 0) 0 hO rfl rfl Try.underlying29 rfl ti29 rfl) _ (Same.refl _)) rfl rfl ?_
 refine GoR.call (op_call body53 rfl (walk_enumerate_replay (e := e) hO.lt ah ae ad ai af ag H)) rfl rfl ?_
 intro v16 w17 hcase20
 refine Or.elim hcase20 ?_ ?_
 ·refine exE fun r15 => andE fun hv21 => andE fun AA => fun H => ?_
  subst hv21
  clear hcase20
  replace H := oElimN H
  have mq := Stp.same hO AA
  replace hO := mq.own
  replace ah := ah.ch mq.ch
  replace ae := ae.ch mq.ch
  replace ad := ad.ch mq.ch
  replace ai := ai.ch mq.ch
  replace af := af.ch mq.ch
  replace ag := ag.ch mq.ch
  replace hB := hB.trans mq.fr
  refine GoR.op ((op_move rfl) _) rfl rfl ?_
  refine GoR.op ((op_extract rfl rfl) _) rfl rfl ?_
  refine GoR.op ((op_extract rfl rfl) _) rfl rfl ?_
  refine GoR.op ((op_assign rfl) _) rfl rfl ?_
  refine GoR.op ((op_assign rfl) _) rfl rfl ?_
  refine GoR.nil ?_
  refine Go1.seq ?_
  refine Go1.region ?_
  refine GoR.op ((op_move rfl) _) rfl rfl ?_
  refine GoR.op ((op_move rfl) _) rfl rfl ?_
  refine GoR.op ((op_move rfl) _) rfl rfl ?_
  cases r15
  ·replace H := ifn Bool.false_ne_true H
   refine GoR.pass rfl rfl ?_
   refine GoR.pass rfl rfl ?_
   refine GoR.op ((op_pickF rfl rfl rfl) _) rfl rfl ?_
   refine GoR.op ((op_assign rfl) _) rfl rfl ?_
   refine GoR.op ((op_assign rfl) _) rfl rfl ?_
   refine GoR.nil ?_
   refine Go1.ret2V Try.func57 rfl (show _ = .pointer none from rfl) (show _ = .bool false from rfl) ?_
   refine hR7 _ _ ?_
   refine GoR.op ((op_move rfl) _) rfl rfl ?_
   refine GoR.op ((op_extract rfl rfl) _) rfl rfl ?_
   refine GoR.op ((op_extract rfl rfl) _) rfl rfl ?_
   refine GoR.op ((op_assign rfl) _) rfl rfl ?_
   refine GoR.op ((op_assign rfl) _) rfl rfl ?_
   refine GoR.nil ?_
   refine Go1.seq ?_
   refine Go1.seq ?_
   refine Go1.cut [(1, .string (gstr w_)), (5, .pointer none), (6, .bool false)] ⟨rfl, rfl, rfl, trivial⟩ ?_
   intro σ _
   refine Go1.region ?_
   refine GoR.op ((op_move rfl) _) rfl rfl ?_
   refine GoR.op ((op_not rfl) _) rfl rfl ?_
   refine GoR.op ((op_move rfl) _) rfl rfl ?_
   refine GoR.pass rfl rfl ?_
   refine GoR.pass rfl rfl ?_
   refine GoR.pass rfl rfl ?_
   refine GoR.pass rfl rfl ?_
   refine GoR.pass rfl rfl ?_
   refine GoR.pass rfl rfl ?_
   refine GoR.pass rfl rfl ?_
   refine GoR.pass rfl rfl ?_
   refine GoR.pass rfl rfl ?_
   refine GoR.op ((op_pickT rfl rfl rfl) _) rfl rfl ?_
   refine GoR.op ((op_move rfl) _) rfl rfl ?_
   refine GoR.pass rfl rfl ?_
   refine GoR.pass rfl rfl ?_
   refine GoR.pass rfl rfl ?_
   refine GoR.pass rfl rfl ?_
   refine GoR.pass rfl rfl ?_
   refine GoR.pass rfl rfl ?_
   refine GoR.pass rfl rfl ?_
   refine GoR.pass rfl rfl ?_
   refine GoR.pass rfl rfl ?_
   refine GoR.pass rfl rfl ?_
   refine GoR.op ((op_pickT rfl rfl rfl) _) rfl rfl ?_
   refine GoR.nil ?_
   refine Go1.condT rfl rfl ?_
   refine Go1.seq ?_
   refine Go1.cut [] trivial ?_
   intro σ _
   refine Go1.region ?_
   refine GoR.op ((op_assign rfl) _) rfl rfl ?_
   refine GoR.nil ?_
   refine Go1.ret1 Try.func30 rfl ?_
   exact ⟨(-1 : Int), rfl, hB.same, H⟩
  replace H := ifp rfl H
  refine GoR.op ((op_move rfl) _) rfl rfl ?_
  refine GoR.inl (vs := [.pointer none]) (caps := []) rfl rfl body50 Try.func50 rfl Try.ntmps50 rfl rfl rfl ?_
  intro RhR23 hR23
  refine Go1.seq ?_
  refine Go1.region ?_
  refine GoR.op ((op_assign rfl) _) rfl rfl ?_
  refine GoR.nil ?_
  refine Go1.seq ?_
  refine Go1.drawS 0 [(0, .pure), (1, .pure), (2, .pure), (3, .pure), (4, .stable), (5, .pure), (6, .pure), (7, .pure), (8, .pure), (9, .stable), (10, .pure), (11, .pure), (12, .pure)] mixed (by kernel_rfl) ?_
  intro w24 C5
  have qY := Stp.same hO C5
  replace hO := qY.own
  replace ah := ah.ch qY.ch
  replace ae := ae.ch qY.ch
  replace ad := ad.ch qY.ch
  replace ai := ai.ch qY.ch
  replace af := af.ch qY.ch
  replace ag := ag.ch qY.ch
  replace hB := hB.trans qY.fr
  refine GoQ.pure rfl (op_move rfl) rfl rfl ?_
  exact H.elim
 ·refine exE fun r14 => exE fun r15 => exE fun dO => exE fun aF => exE fun aG => exE fun aH => exE fun cd => exE fun av => exE fun aw => exE fun ax => exE fun bY => exE fun ak => exE fun al => exE fun am => exE fun bN => exE fun aI => exE fun aJ => exE fun aK => exE fun ce => exE fun ay => exE fun az => exE fun aA => exE fun bZ => exE fun aB => exE fun aC => exE fun aD => exE fun b4 => exE fun bt => exE fun bG => exE fun bH => exE fun bI => exE fun cP => exE fun bu => exE fun bv => exE fun bw => exE fun cy => exE fun bx => exE fun bz => exE fun bA => exE fun cz => andE fun hv27 => andE fun AA => andE fun hN19 => andE fun b5 => andE fun bO => andE fun bM => andE fun b9 => andE fun bB => andE fun bX => andE fun cJ => andE fun cw => andE fun b8 => fun H => ?_
  subst hv27
  clear hcase20
  replace H := oElimS H
  have qo := Stp.more hO AA hN19
  dsimp only [List.cons_append, List.nil_append] at qo
  replace hO := qo.own
  replace ah := ah.ch qo.ch
  replace ae := ae.ch qo.ch
  replace ad := ad.ch qo.ch
  replace ai := ai.ch qo.ch
  replace af := af.ch qo.ch
  replace ag := ag.ch qo.ch
  replace hB := hB.trans qo.fr
  replace b5 := b5.ch (Ch.assoc _ _ _ _)
  dsimp only [List.cons_append, List.nil_append] at b5
  replace bO := bO.ch (Ch.assoc _ _ _ _)
  dsimp only [List.cons_append, List.nil_append] at bO
  replace bM := bM.ch (Ch.assoc _ _ _ _)
  dsimp only [List.cons_append, List.nil_append] at bM
  replace b9 := b9.ch (Ch.assoc _ _ _ _)
  dsimp only [List.cons_append, List.nil_append] at b9
  replace bB := bB.ch (Ch.assoc _ _ _ _)
  dsimp only [List.cons_append, List.nil_append] at bB
  replace bX := bX.ch (Ch.assoc _ _ _ _)
  dsimp only [List.cons_append, List.nil_append] at bX
  replace cJ := cJ.ch (Ch.assoc _ _ _ _)
  dsimp only [List.cons_append, List.nil_append] at cJ
  replace cw := cw.ch (Ch.assoc _ _ _ _)
  dsimp only [List.cons_append, List.nil_append] at cw
  replace b8 := b8.ch (Ch.assoc _ _ _ _)
  dsimp only [List.cons_append, List.nil_append] at b8
  refine GoR.op ((op_move rfl) _) rfl rfl ?_
  refine GoR.op ((op_extract rfl rfl) _) rfl rfl ?_
  refine GoR.op ((op_extract rfl rfl) _) rfl rfl ?_
  refine GoR.op ((op_assign rfl) _) rfl rfl ?_
  refine GoR.op ((op_assign rfl) _) rfl rfl ?_
  refine GoR.nil ?_
  refine Go1.seq ?_
  refine Go1.region ?_
  refine GoR.op ((op_move rfl) _) rfl rfl ?_
  refine GoR.op ((op_move rfl) _) rfl rfl ?_
  refine GoR.op ((op_move rfl) _) rfl rfl ?_
  cases r15
  ·replace H := ifn Bool.false_ne_true H
   refine GoR.pass rfl rfl ?_
   refine GoR.pass rfl rfl ?_
   refine GoR.op ((op_pickF rfl rfl rfl) _) rfl rfl ?_
   refine GoR.op ((op_assign rfl) _) rfl rfl ?_
   refine GoR.op ((op_assign rfl) _) rfl rfl ?_
   refine GoR.nil ?_
   refine Go1.ret2V Try.func57 rfl (show _ = .pointer (some ⟨dO, 0, none⟩) from rfl) (show _ = .bool false from rfl) ?_
   refine hR7 _ _ ?_
   refine GoR.op ((op_move rfl) _) rfl rfl ?_
   refine GoR.op ((op_extract rfl rfl) _) rfl rfl ?_
   refine GoR.op ((op_extract rfl rfl) _) rfl rfl ?_
   refine GoR.op ((op_assign rfl) _) rfl rfl ?_
   refine GoR.op ((op_assign rfl) _) rfl rfl ?_
   refine GoR.nil ?_
   refine Go1.seq ?_
   refine Go1.seq ?_
   refine Go1.cut [(1, .string (gstr w_)), (5, .pointer (some ⟨dO, 0, none⟩)), (6, .bool false)] ⟨rfl, rfl, rfl, trivial⟩ ?_
   intro σ _
   refine Go1.region ?_
   refine GoR.op ((op_move rfl) _) rfl rfl ?_
   refine GoR.op ((op_not rfl) _) rfl rfl ?_
   refine GoR.op ((op_move rfl) _) rfl rfl ?_
   refine GoR.pass rfl rfl ?_
   refine GoR.pass rfl rfl ?_
   refine GoR.pass rfl rfl ?_
   refine GoR.pass rfl rfl ?_
   refine GoR.pass rfl rfl ?_
   refine GoR.pass rfl rfl ?_
   refine GoR.pass rfl rfl ?_
   refine GoR.pass rfl rfl ?_
   refine GoR.pass rfl rfl ?_
   refine GoR.op ((op_pickT rfl rfl rfl) _) rfl rfl ?_
   refine GoR.op ((op_move rfl) _) rfl rfl ?_
   refine GoR.pass rfl rfl ?_
   refine GoR.pass rfl rfl ?_
   refine GoR.pass rfl rfl ?_
   refine GoR.pass rfl rfl ?_
   refine GoR.pass rfl rfl ?_
   refine GoR.pass rfl rfl ?_
   refine GoR.pass rfl rfl ?_
   refine GoR.pass rfl rfl ?_
   refine GoR.pass rfl rfl ?_
   refine GoR.pass rfl rfl ?_
   refine GoR.op ((op_pickT rfl rfl rfl) _) rfl rfl ?_
   refine GoR.nil ?_
   refine Go1.condT rfl rfl ?_
   refine Go1.seq ?_
   refine Go1.cut [] trivial ?_
   intro σ _
   refine Go1.region ?_
   refine GoR.op ((op_assign rfl) _) rfl rfl ?_
   refine GoR.nil ?_
   refine Go1.ret1 Try.func30 rfl ?_
   exact ⟨(-1 : Int), rfl, hB.same, H⟩
  replace H := ifp rfl H
  refine GoR.op ((op_move rfl) _) rfl rfl ?_
  refine GoR.inl (vs := [.pointer (some ⟨dO, 0, none⟩)]) (caps := []) rfl rfl body50 Try.func50 rfl Try.ntmps50 rfl rfl rfl ?_
  intro RhR40 hR40
  refine Go1.seq ?_
  refine Go1.region ?_
  refine GoR.op ((op_assign rfl) _) rfl rfl ?_
  refine GoR.nil ?_
  refine Go1.seq ?_
  refine Go1.drawS 0 [(0, .pure), (1, .pure), (2, .pure), (3, .pure), (4, .stable), (5, .pure), (6, .pure), (7, .pure), (8, .pure), (9, .stable), (10, .pure), (11, .pure), (12, .pure)] mixed (by kernel_rfl) ?_
  intro w41 Iw
  have nK := Stp.same hO Iw
  replace b5 := b5.ch nK.ch
  replace bO := bO.ch nK.ch
  replace bM := bM.ch nK.ch
  replace b9 := b9.ch nK.ch
  replace bB := bB.ch nK.ch
  replace bX := bX.ch nK.ch
  replace cJ := cJ.ch nK.ch
  replace cw := cw.ch nK.ch
  replace b8 := b8.ch nK.ch
  replace hO := nK.own
  replace ah := ah.ch nK.ch
  replace ae := ae.ch nK.ch
  replace ad := ad.ch nK.ch
  replace ai := ai.ch nK.ch
  replace af := af.ch nK.ch
  replace ag := ag.ch nK.ch
  replace hB := hB.trans nK.fr
  refine GoQ.pure rfl (op_move rfl) rfl rfl ?_
  refine GoQ.pure rfl (op_nilCheck rfl) rfl rfl ?_
  refine GoQ.pure rfl (op_fieldAddr Try.underlying72 rfl ti29 rfl (by decide)) rfl rfl ?_
  refine GoQ.pure rfl (op_fieldAddr Try.underlying29 rfl ti3 rfl (by decide)) rfl rfl ?_
  refine GoQ.stable rfl (oblk (i := 8) 0 hO rfl rfl Try.underlying3 rfl rfl) rfl rfl ?_
  refine GoQ.pure rfl (op_move rfl) rfl rfl ?_
  refine GoQ.pure rfl (op_nilCheck rfl) rfl rfl ?_
  refine GoQ.pure rfl (op_fieldAddr Try.underlying72 rfl ti29 rfl (by decide)) rfl rfl ?_
  refine GoQ.pure rfl (op_fieldAddr Try.underlying29 rfl ti22 rfl (by decide)) rfl rfl ?_
  refine GoQ.stable rfl (oblk (i := 3) 0 hO rfl rfl Try.underlying22 rfl rfl) rfl rfl ?_
  refine GoQ.pure rfl (op_lenN Try.underlying22 rfl (bO.neq hO 2 rfl)) rfl rfl ?_
  by_cases h44 : r14.Enum.Done = (r14.Enum.Elems.length : Int)
  ·replace H := ifp h44 H
   refine GoQ.pure rfl (fun w => opB (op_eql rfl rfl w) (decide_eq_true h44)) rfl rfl ?_
   refine GoQ.pure rfl (op_assign rfl) rfl rfl ?_
   refine GoQ.nil ?_
   refine Go1.ret1V Try.func50 rfl (show _ = .bool true from rfl) ?_
   refine hR40 _ _ ?_
   refine GoR.op ((op_pickT rfl rfl rfl) _) rfl rfl ?_
   refine GoR.op ((op_assign rfl) _) rfl rfl ?_
   refine GoR.op ((op_assign rfl) _) rfl rfl ?_
   refine GoR.nil ?_
   refine Go1.ret2V Try.func57 rfl (show _ = .pointer (some ⟨dO, 0, none⟩) from rfl) (show _ = .bool true from rfl) ?_
   refine hR7 _ _ ?_
   refine GoR.op ((op_move rfl) _) rfl rfl ?_
   refine GoR.op ((op_extract rfl rfl) _) rfl rfl ?_
   refine GoR.op ((op_extract rfl rfl) _) rfl rfl ?_
   refine GoR.op ((op_assign rfl) _) rfl rfl ?_
   refine GoR.op ((op_assign rfl) _) rfl rfl ?_
   refine GoR.nil ?_
   refine Go1.seq ?_
   refine Go1.seq ?_
   refine Go1.cut [(1, .string (gstr w_)), (5, .pointer (some ⟨dO, 0, none⟩)), (6, .bool true)] ⟨rfl, rfl, rfl, trivial⟩ ?_
   intro σ _
   refine Go1.region ?_
   refine GoR.op ((op_move rfl) _) rfl rfl ?_
   refine GoR.op ((op_not rfl) _) rfl rfl ?_
   refine GoR.op ((op_move rfl) _) rfl rfl ?_
   refine GoR.op ((op_move rfl) _) rfl rfl ?_
   refine GoR.op ((op_move rfl) _) rfl rfl ?_
   refine GoR.op ((op_nilCheck rfl) _) rfl rfl ?_
   refine GoR.op ((op_fieldAddr Try.underlying72 rfl ti29 rfl (by decide)) _) rfl rfl ?_
   refine GoR.op ((op_fieldAddr Try.underlying29 rfl ti22 rfl (by decide)) _) rfl rfl ?_
   refine GoR.op ((oblk (i := 2) 0 hO rfl rfl Try.underlying22 rfl rfl) _ (Same.refl _)) rfl rfl ?_
   refine GoR.op ((op_lenN Try.underlying22 rfl (b5.neq hO 1 rfl)) _) rfl rfl ?_
   refine GoR.call (op_call body58 rfl (walk_word_Valid hO.lt nt H)) rfl rfl ?_
   rintro v49 w46 ⟨r45, rfl, Ix, H⟩
   have nM := Stp.same hO Ix
   replace b5 := b5.ch nM.ch
   replace bO := bO.ch nM.ch
   replace bM := bM.ch nM.ch
   replace b9 := b9.ch nM.ch
   replace bB := bB.ch nM.ch
   replace bX := bX.ch nM.ch
   replace cJ := cJ.ch nM.ch
   replace cw := cw.ch nM.ch
   replace b8 := b8.ch nM.ch
   replace hO := nM.own
   replace ah := ah.ch nM.ch
   replace ae := ae.ch nM.ch
   replace ad := ad.ch nM.ch
   replace ai := ai.ch nM.ch
   replace af := af.ch nM.ch
   replace ag := ag.ch nM.ch
   replace hB := hB.trans nM.fr
   cases r45
   ·replace H := ifn Bool.false_ne_true H
    refine GoR.op ((op_not rfl) _) rfl rfl ?_
    refine GoR.op ((op_pickF rfl rfl rfl) _) rfl rfl ?_
    refine GoR.op ((op_move rfl) _) rfl rfl ?_
    refine GoR.pass rfl rfl ?_
    refine GoR.pass rfl rfl ?_
    refine GoR.pass rfl rfl ?_
    refine GoR.pass rfl rfl ?_
    refine GoR.pass rfl rfl ?_
    refine GoR.pass rfl rfl ?_
    refine GoR.pass rfl rfl ?_
    refine GoR.pass rfl rfl ?_
    refine GoR.pass rfl rfl ?_
    refine GoR.pass rfl rfl ?_
    refine GoR.op ((op_pickT rfl rfl rfl) _) rfl rfl ?_
    refine GoR.nil ?_
    refine Go1.condT rfl rfl ?_
    refine Go1.seq ?_
    refine Go1.cut [] trivial ?_
    intro σ _
    refine Go1.region ?_
    refine GoR.op ((op_assign rfl) _) rfl rfl ?_
    refine GoR.nil ?_
    refine Go1.ret1 Try.func30 rfl ?_
    exact ⟨(-1 : Int), rfl, hB.same, H⟩
   replace H := ifp rfl H
   refine GoR.op ((op_not rfl) _) rfl rfl ?_
   refine GoR.op ((op_pickF rfl rfl rfl) _) rfl rfl ?_
   refine GoR.op ((op_move rfl) _) rfl rfl ?_
   refine GoR.op ((op_move rfl) _) rfl rfl ?_
   by_cases h51 : w_ = (([] : Str))
   ·replace H := ifp h51 H
    refine GoR.op ((fun w => opB (op_eqlS rfl rfl w) (decide_eq_true h51)) _) rfl rfl ?_
    refine GoR.op ((op_move rfl) _) rfl rfl ?_
    refine GoR.op ((op_move rfl) _) rfl rfl ?_
    refine GoR.op ((op_nilCheck rfl) _) rfl rfl ?_
    refine GoR.op ((op_fieldAddr Try.underlying72 rfl ti29 rfl (by decide)) _) rfl rfl ?_
    refine GoR.op ((op_fieldAddr Try.underlying29 rfl ti4 rfl (by decide)) _) rfl rfl ?_
    by_cases h52 : r14.Enum.Monoid = true
    ·replace H := ifp h52 H
     refine GoR.op (opB ((oblk (i := 1) 0 hO rfl rfl Try.underlying4 rfl rfl) _ (Same.refl _)) (h52)) rfl rfl ?_
     refine GoR.op ((op_not rfl) _) rfl rfl ?_
     refine GoR.op ((op_pickT rfl rfl rfl) _) rfl rfl ?_
     refine GoR.op ((op_pickF rfl rfl rfl) _) rfl rfl ?_
     refine GoR.nil ?_
     refine Go1.condF rfl rfl ?_
     refine Go1.skip ?_
     refine Go1.seq ?_
     refine Go1.region ?_
     refine GoR.op ((op_move rfl) _) rfl rfl ?_
     refine GoR.op ((op_move rfl) _) rfl rfl ?_
     refine GoR.inl (vs := [.pointer (some ⟨dO, 0, none⟩), .int .i64 (-1 : Int), .string (gstr w_)]) (caps := []) rfl rfl body59 Try.func59 rfl Try.ntmps59 rfl rfl rfl ?_
     intro RhR53 hR53
     refine Go1.seq ?_
     refine Go1.region ?_
     refine GoR.op ((op_assign rfl) _) rfl rfl ?_
     refine GoR.nil ?_
     refine Go1.seq ?_
     refine Go1.seq ?_
     refine Go1.cut [(0, .pointer (some ⟨dO, 0, none⟩)), (1, .int .i64 (-1 : Int)), (2, .string (gstr w_))] ⟨rfl, rfl, rfl, trivial⟩ ?_
     intro σ _
     refine Go1.region ?_
     refine GoR.op ((op_move rfl) _) rfl rfl ?_
     by_cases h54 : (-1 : Int) = (-1 : Int)
     ·replace H := ifp h54 H
      refine GoR.op ((fun w => opB (op_eql rfl rfl w) (decide_eq_true h54)) _) rfl rfl ?_
      refine GoR.op ((op_move rfl) _) rfl rfl ?_
      refine GoR.op ((op_move rfl) _) rfl rfl ?_
      refine GoR.op ((fun w => opB (op_eqlS rfl rfl w) (decide_eq_true h51)) _) rfl rfl ?_
      refine GoR.op ((op_pickT rfl rfl rfl) _) rfl rfl ?_
      refine GoR.nil ?_
      refine Go1.condT rfl rfl ?_
      refine Go1.seq ?_
      refine Go1.region ?_
      refine GoR.op ((op_assign rfl) _) rfl rfl ?_
      refine GoR.nil ?_
      refine Go1.ret1V Try.func59 rfl (show _ = .int .i64 (0 : Int) from rfl) ?_
      refine hR53 _ _ ?_
      refine GoR.op ((op_assign rfl) _) rfl rfl ?_
      refine GoR.nil ?_
      refine Go1.ret1 Try.func30 rfl ?_
      exact ⟨(0 : Int), rfl, hB.same, H⟩
     replace H := ifn h54 H
     refine GoR.op ((fun w => opB (op_eql rfl rfl w) (decide_eq_false h54)) _) rfl rfl ?_
     refine GoR.op ((op_move rfl) _) rfl rfl ?_
     refine GoR.pass rfl rfl ?_
     refine GoR.pass rfl rfl ?_
     refine GoR.op ((op_pickF rfl rfl rfl) _) rfl rfl ?_
     refine GoR.nil ?_
     refine Go1.condF rfl rfl ?_
     refine Go1.skip ?_
     refine Go1.seq ?_
     refine Go1.seq ?_
     refine Go1.region ?_
     refine GoR.op ((op_move rfl) _) rfl rfl ?_
     refine GoR.op ((op_lenS Try.underlying9 rfl) _) rfl rfl ?_
     replace H := H nt
     refine GoR.op ((op_move rfl) _) rfl rfl ?_
     refine GoR.nil ?_
     refine Go1.block ?_
     replace ah := ah.ch (Owns.dropCh _ _ 11)
     replace ae := ae.ch (Owns.dropCh _ _ 11)
     replace ad := ad.ch (Owns.dropCh _ _ 11)
     replace ai := ai.ch (Owns.dropCh _ _ 11)
     replace af := af.ch (Owns.dropCh _ _ 11)
     replace ag := ag.ch (Owns.dropCh _ _ 11)
     replace b5 := b5.ch (Owns.dropCh _ _ 11)
     replace bO := bO.ch (Owns.dropCh _ _ 11)
     replace bM := bM.ch (Owns.dropCh _ _ 11)
     replace b9 := b9.ch (Owns.dropCh _ _ 11)
     replace bB := bB.ch (Owns.dropCh _ _ 11)
     replace bX := bX.ch (Owns.dropCh _ _ 11)
     replace cJ := cJ.ch (Owns.dropCh _ _ 11)
     replace cw := cw.ch (Owns.dropCh _ _ 11)
     replace b8 := b8.ch (Owns.dropCh _ _ 11)
     replace hB := hB.trans (Owns.dropFr _ _ 11)
     replace hO := hO.drop 11
     dsimp only [eS, eZ] at hB hO ah ae ad ai af ag b5 bO bM b9 bB bX cJ cw b8
     replace ah := ah.ch (Owns.dropCh _ _ 11)
     replace ae := ae.ch (Owns.dropCh _ _ 11)
     replace ad := ad.ch (Owns.dropCh _ _ 11)
     replace ai := ai.ch (Owns.dropCh _ _ 11)
     replace af := af.ch (Owns.dropCh _ _ 11)
     replace ag := ag.ch (Owns.dropCh _ _ 11)
     replace b5 := b5.ch (Owns.dropCh _ _ 11)
     replace bO := bO.ch (Owns.dropCh _ _ 11)
     replace bM := bM.ch (Owns.dropCh _ _ 11)
     replace b9 := b9.ch (Owns.dropCh _ _ 11)
     replace bB := bB.ch (Owns.dropCh _ _ 11)
     replace bX := bX.ch (Owns.dropCh _ _ 11)
     replace cJ := cJ.ch (Owns.dropCh _ _ 11)
     replace cw := cw.ch (Owns.dropCh _ _ 11)
     replace b8 := b8.ch (Owns.dropCh _ _ 11)
     replace hB := hB.trans (Owns.dropFr _ _ 11)
     replace hO := hO.drop 11
     dsimp only [eS, eZ] at hB hO ah ae ad ai af ag b5 bO bM b9 bB bX cJ cw b8
     refine Go1.loopW (S := Int × Nat) (fun s σ w => match s with | (i1_56, k1_57) => agrees σ [(0, .pointer (some ⟨dO, 0, none⟩)), (1, .int .i64 i1_56), (2, .string (gstr w_)), (15, .int .i64 (w_.length : Int)), (16, .int .i64 (k1_57 : Int))] ∧ Owns w0.heap.size w [.blk dO (.cells #[.int .i64 r14.Enum.Points, .bool r14.Enum.Monoid, .slice aG aF aH, .slice aw av ax, .slice al ak am, .slice aJ aI aK, .slice az ay aA, .slice aC aB aD, .int .i64 r14.Enum.Done, .map (some bt), .slice bH bG bI, .slice bv bu bw, .slice bz bx bA] 72 (0, 0)), .row 26 1 aG aF aH cd, .row 26 1 aw av ax bY, .row 3 1 al ak am bN, .row 3 1 aJ aI aK ce, .row 26 1 az ay aA bZ, .row 39 2 aC aB aD b4, .row 9 1 bH bG bI cP, .row 3 1 bv bu bw cy, .row 3 1 bz bx bA cz, .any (mapE (fun a : List UInt8 => Value.string (gstr a)) (fun a : Int => Value.int .i64 a) bt r14.number)] A ∧ Els (Rp.sl (Rp.int .i64)) (bl [.blk dO (.cells #[.int .i64 r14.Enum.Points, .bool r14.Enum.Monoid, .slice aG aF aH, .slice aw av ax, .slice al ak am, .slice aJ aI aK, .slice az ay aA, .slice aC aB aD, .int .i64 r14.Enum.Done, .map (some bt), .slice bH bG bI, .slice bv bu bw, .slice bz bx bA] 72 (0, 0)), .row 26 1 aG aF aH cd, .row 26 1 aw av ax bY, .row 3 1 al ak am bN, .row 3 1 aJ aI aK ce, .row 26 1 az ay aA bZ, .row 39 2 aC aB aD b4, .row 9 1 bH bG bI cP, .row 3 1 bv bu bw cy, .row 3 1 bz bx bA cz, .any (mapE (fun a : List UInt8 => Value.string (gstr a)) (fun a : Int => Value.int .i64 a) bt r14.number)] ++ A) w cd r14.Enum.Gens ∧ Els (Rp.sl (Rp.int .i64)) (bl [.blk dO (.cells #[.int .i64 r14.Enum.Points, .bool r14.Enum.Monoid, .slice aG aF aH, .slice aw av ax, .slice al ak am, .slice aJ aI aK, .slice az ay aA, .slice aC aB aD, .int .i64 r14.Enum.Done, .map (some bt), .slice bH bG bI, .slice bv bu bw, .slice bz bx bA] 72 (0, 0)), .row 26 1 aG aF aH cd, .row 26 1 aw av ax bY, .row 3 1 al ak am bN, .row 3 1 aJ aI aK ce, .row 26 1 az ay aA bZ, .row 39 2 aC aB aD b4, .row 9 1 bH bG bI cP, .row 3 1 bv bu bw cy, .row 3 1 bz bx bA cz, .any (mapE (fun a : List UInt8 => Value.string (gstr a)) (fun a : Int => Value.int .i64 a) bt r14.number)] ++ A) w bY r14.Enum.Elems ∧ Els (Rp.int .i64) (bl [.blk dO (.cells #[.int .i64 r14.Enum.Points, .bool r14.Enum.Monoid, .slice aG aF aH, .slice aw av ax, .slice al ak am, .slice aJ aI aK, .slice az ay aA, .slice aC aB aD, .int .i64 r14.Enum.Done, .map (some bt), .slice bH bG bI, .slice bv bu bw, .slice bz bx bA] 72 (0, 0)), .row 26 1 aG aF aH cd, .row 26 1 aw av ax bY, .row 3 1 al ak am bN, .row 3 1 aJ aI aK ce, .row 26 1 az ay aA bZ, .row 39 2 aC aB aD b4, .row 9 1 bH bG bI cP, .row 3 1 bv bu bw cy, .row 3 1 bz bx bA cz, .any (mapE (fun a : List UInt8 => Value.string (gstr a)) (fun a : Int => Value.int .i64 a) bt r14.number)] ++ A) w bN r14.Enum.Prefix ∧ Els (Rp.int .i64) (bl [.blk dO (.cells #[.int .i64 r14.Enum.Points, .bool r14.Enum.Monoid, .slice aG aF aH, .slice aw av ax, .slice al ak am, .slice aJ aI aK, .slice az ay aA, .slice aC aB aD, .int .i64 r14.Enum.Done, .map (some bt), .slice bH bG bI, .slice bv bu bw, .slice bz bx bA] 72 (0, 0)), .row 26 1 aG aF aH cd, .row 26 1 aw av ax bY, .row 3 1 al ak am bN, .row 3 1 aJ aI aK ce, .row 26 1 az ay aA bZ, .row 39 2 aC aB aD b4, .row 9 1 bH bG bI cP, .row 3 1 bv bu bw cy, .row 3 1 bz bx bA cz, .any (mapE (fun a : List UInt8 => Value.string (gstr a)) (fun a : Int => Value.int .i64 a) bt r14.number)] ++ A) w ce r14.Enum.Last ∧ Els (Rp.sl (Rp.int .i64)) (bl [.blk dO (.cells #[.int .i64 r14.Enum.Points, .bool r14.Enum.Monoid, .slice aG aF aH, .slice aw av ax, .slice al ak am, .slice aJ aI aK, .slice az ay aA, .slice aC aB aD, .int .i64 r14.Enum.Done, .map (some bt), .slice bH bG bI, .slice bv bu bw, .slice bz bx bA] 72 (0, 0)), .row 26 1 aG aF aH cd, .row 26 1 aw av ax bY, .row 3 1 al ak am bN, .row 3 1 aJ aI aK ce, .row 26 1 az ay aA bZ, .row 39 2 aC aB aD b4, .row 9 1 bH bG bI cP, .row 3 1 bv bu bw cy, .row 3 1 bz bx bA cz, .any (mapE (fun a : List UInt8 => Value.string (gstr a)) (fun a : Int => Value.int .i64 a) bt r14.number)] ++ A) w bZ r14.Enum.Right ∧ Els (rpRule) (bl [.blk dO (.cells #[.int .i64 r14.Enum.Points, .bool r14.Enum.Monoid, .slice aG aF aH, .slice aw av ax, .slice al ak am, .slice aJ aI aK, .slice az ay aA, .slice aC aB aD, .int .i64 r14.Enum.Done, .map (some bt), .slice bH bG bI, .slice bv bu bw, .slice bz bx bA] 72 (0, 0)), .row 26 1 aG aF aH cd, .row 26 1 aw av ax bY, .row 3 1 al ak am bN, .row 3 1 aJ aI aK ce, .row 26 1 az ay aA bZ, .row 39 2 aC aB aD b4, .row 9 1 bH bG bI cP, .row 3 1 bv bu bw cy, .row 3 1 bz bx bA cz, .any (mapE (fun a : List UInt8 => Value.string (gstr a)) (fun a : Int => Value.int .i64 a) bt r14.number)] ++ A) w b4 r14.Enum.Rules ∧ Els (Rp.str) (bl [.blk dO (.cells #[.int .i64 r14.Enum.Points, .bool r14.Enum.Monoid, .slice aG aF aH, .slice aw av ax, .slice al ak am, .slice aJ aI aK, .slice az ay aA, .slice aC aB aD, .int .i64 r14.Enum.Done, .map (some bt), .slice bH bG bI, .slice bv bu bw, .slice bz bx bA] 72 (0, 0)), .row 26 1 aG aF aH cd, .row 26 1 aw av ax bY, .row 3 1 al ak am bN, .row 3 1 aJ aI aK ce, .row 26 1 az ay aA bZ, .row 39 2 aC aB aD b4, .row 9 1 bH bG bI cP, .row 3 1 bv bu bw cy, .row 3 1 bz bx bA cz, .any (mapE (fun a : List UInt8 => Value.string (gstr a)) (fun a : Int => Value.int .i64 a) bt r14.number)] ++ A) w cP r14.words ∧ Els (Rp.int .i64) (bl [.blk dO (.cells #[.int .i64 r14.Enum.Points, .bool r14.Enum.Monoid, .slice aG aF aH, .slice aw av ax, .slice al ak am, .slice aJ aI aK, .slice az ay aA, .slice aC aB aD, .int .i64 r14.Enum.Done, .map (some bt), .slice bH bG bI, .slice bv bu bw, .slice bz bx bA] 72 (0, 0)), .row 26 1 aG aF aH cd, .row 26 1 aw av ax bY, .row 3 1 al ak am bN, .row 3 1 aJ aI aK ce, .row 26 1 az ay aA bZ, .row 39 2 aC aB aD b4, .row 9 1 bH bG bI cP, .row 3 1 bv bu bw cy, .row 3 1 bz bx bA cz, .any (mapE (fun a : List UInt8 => Value.string (gstr a)) (fun a : Int => Value.int .i64 a) bt r14.number)] ++ A) w cy r14.behind ∧ Els (Rp.int .i64) (bl [.blk dO (.cells #[.int .i64 r14.Enum.Points, .bool r14.Enum.Monoid, .slice aG aF aH, .slice aw av ax, .slice al ak am, .slice aJ aI aK, .slice az ay aA, .slice aC aB aD, .int .i64 r14.Enum.Done, .map (some bt), .slice bH bG bI, .slice bv bu bw, .slice bz bx bA] 72 (0, 0)), .row 26 1 aG aF aH cd, .row 26 1 aw av ax bY, .row 3 1 al ak am bN, .row 3 1 aJ aI aK ce, .row 26 1 az ay aA bZ, .row 39 2 aC aB aD b4, .row 9 1 bH bG bI cP, .row 3 1 bv bu bw cy, .row 3 1 bz bx bA cz, .any (mapE (fun a : List UInt8 => Value.string (gstr a)) (fun a : Int => Value.int .i64 a) bt r14.number)] ++ A) w cz r14.single ∧ Fr (bl []) w0 (bl [.blk dO (.cells #[.int .i64 r14.Enum.Points, .bool r14.Enum.Monoid, .slice aG aF aH, .slice aw av ax, .slice al ak am, .slice aJ aI aK, .slice az ay aA, .slice aC aB aD, .int .i64 r14.Enum.Done, .map (some bt), .slice bH bG bI, .slice bv bu bw, .slice bz bx bA] 72 (0, 0)), .row 26 1 aG aF aH cd, .row 26 1 aw av ax bY, .row 3 1 al ak am bN, .row 3 1 aJ aI aK ce, .row 26 1 az ay aA bZ, .row 39 2 aC aB aD b4, .row 9 1 bH bG bI cP, .row 3 1 bv bu bw cy, .row 3 1 bz bx bA cz, .any (mapE (fun a : List UInt8 => Value.string (gstr a)) (fun a : Int => Value.int .i64 a) bt r14.number)]) w) H ⟨⟨rfl, rfl, rfl, rfl, rfl, trivial⟩, hO, b5, bO, bM, b9, bB, bX, cJ, cw, b8, hB⟩ ?_
     intro X1
     refine prE fun i1_56 => fun k1_57 => ?_
     intro H hX1 σ w55
     refine andE fun hag => andE fun hO => andE fun b5 => andE fun bO => andE fun bM => andE fun b9 => andE fun bB => andE fun bX => andE fun cJ => andE fun cw => andE fun b8 => fun hB => ?_
     dsimp only at H
     refine Go1.keep [(0, .pointer (some ⟨dO, 0, none⟩)), (1, .int .i64 i1_56), (2, .string (gstr w_)), (15, .int .i64 (w_.length : Int)), (16, .int .i64 (k1_57 : Int))] hag ?_
     refine Go1.seq ?_
     refine Go1.region ?_
     by_cases h58 : (k1_57 : Int) < (w_.length : Int)
     ·replace H := ifp h58 H
      refine GoR.op ((fun w => opB (op_lss rfl rfl w) (decide_eq_true h58)) _) rfl rfl ?_
      refine GoR.nil ?_
      refine Go1.seq ?_
      refine Go1.condT rfl rfl ?_
      refine Go1.skip ?_
      refine Go1.seq ?_
      refine Go1.block ?_
      refine Go1.seq ?_
      refine Go1.region ?_
      refine GoR.op ((op_move rfl) _) rfl rfl ?_
      refine GoR.op ((op_assign rfl) _) rfl rfl ?_
      refine GoR.nil ?_
      refine Go1.region ?_
      refine GoR.op ((op_move rfl) _) rfl rfl ?_
      refine GoR.op ((op_move rfl) _) rfl rfl ?_
      refine GoR.op ((op_move rfl) _) rfl rfl ?_
      refine GoR.op ((op_move rfl) _) rfl rfl ?_
      obtain ⟨h59, H⟩ := H
      obtain ⟨h60, H⟩ := H
      refine GoR.op ((op_indexS Try.underlying9 rfl rfl h59 h60) _) rfl rfl ?_
      refine GoR.op ((op_sub rfl rfl rfl) _) rfl rfl ?_
      refine GoR.op ((op_conv Try.underlying5 Try.underlying3 rfl rfl) _) rfl rfl ?_
      refine GoR.inl (vs := [.pointer (some ⟨dO, 0, none⟩), .int .i64 i1_56, .int .i64 (IntKind.i64.wrap (IntKind.u8.wrap (((ix w_ (k1_57 : Int)).toNat : Int) - (97 : Int))))]) (caps := []) rfl rfl body66 Try.func66 rfl Try.ntmps66 rfl rfl rfl ?_
      intro RhR61 hR61
      refine Go1.seq ?_
      refine Go1.region ?_
      refine GoR.op ((op_assign rfl) _) rfl rfl ?_
      refine GoR.nil ?_
      refine Go1.seq ?_
      refine Go1.seq ?_
      refine Go1.region ?_
      refine GoR.op ((op_move rfl) _) rfl rfl ?_
      by_cases h62 : i1_56 = (-1 : Int)
      ·replace H := ifp h62 H
       refine GoR.op ((fun w => opB (op_eql rfl rfl w) (decide_eq_true h62)) _) rfl rfl ?_
       refine GoR.nil ?_
       refine Go1.condT rfl rfl ?_
       refine Go1.seq ?_
       refine Go1.region ?_
       refine GoR.op ((op_move rfl) _) rfl rfl ?_
       refine GoR.op ((op_nilCheck rfl) _) rfl rfl ?_
       refine GoR.op ((op_fieldAddr Try.underlying72 rfl ti26 rfl (by decide)) _) rfl rfl ?_
       refine GoR.op ((oblk (i := 12) 0 hO rfl rfl Try.underlying26 rfl rfl) _ (Same.refl _)) rfl rfl ?_
       refine GoR.op ((op_move rfl) _) rfl rfl ?_
       obtain ⟨h63, H⟩ := H
       obtain ⟨h64, H⟩ := H
       refine GoR.op ((op_index Try.underlying26 ti3 rfl rfl h63 (ltn (b8.neq hO 9 rfl) h64) (b8.psome hO 9 rfl h63 h64)) _) rfl rfl ?_
       refine GoR.op ((oldInt 9 hO rfl b8 h63 h64 Try.underlying3 rfl rfl) _ (Same.refl _)) rfl rfl ?_
       refine GoR.op ((op_assign rfl) _) rfl rfl ?_
       refine GoR.nil ?_
       refine Go1.ret1V Try.func66 rfl (show _ = .int .i64 (ix r14.single (IntKind.i64.wrap (IntKind.u8.wrap (((ix w_ (k1_57 : Int)).toNat : Int) - (97 : Int))))) from rfl) ?_
       refine hR61 _ _ ?_
       refine GoR.op ((op_assign rfl) _) rfl rfl ?_
       refine GoR.nil ?_
       refine Go1.inBlock ?_
       refine Go1.cut [(0, .pointer (some ⟨dO, 0, none⟩)), (1, .int .i64 (ix r14.single (IntKind.i64.wrap (IntKind.u8.wrap (((ix w_ (k1_57 : Int)).toNat : Int) - (97 : Int)))))), (2, .string (gstr w_)), (15, .int .i64 (w_.length : Int)), (16, .int .i64 (k1_57 : Int))] ⟨rfl, rfl, rfl, rfl, rfl, trivial⟩ ?_
       intro σ _
       refine Go1.region ?_
       refine GoR.op ((op_add rfl rfl (wrap_i64 (natbd h58 nt))) _) rfl rfl ?_
       refine GoR.op ((op_move rfl) _) rfl rfl ?_
       refine GoR.nil ?_
       exact hX1 _ H _ _ ⟨⟨rfl, rfl, rfl, rfl, rfl, trivial⟩, hO, b5, bO, bM, b9, bB, bX, cJ, cw, b8, hB⟩
      replace H := ifn h62 H
      refine GoR.op ((fun w => opB (op_eql rfl rfl w) (decide_eq_false h62)) _) rfl rfl ?_
      refine GoR.nil ?_
      refine Go1.condF rfl rfl ?_
      refine Go1.skip ?_
      refine Go1.seq ?_
      refine Go1.region ?_
      refine GoR.op ((op_move rfl) _) rfl rfl ?_
      refine GoR.op ((op_nilCheck rfl) _) rfl rfl ?_
      refine GoR.op ((op_fieldAddr Try.underlying72 rfl ti29 rfl (by decide)) _) rfl rfl ?_
      refine GoR.op ((op_fieldAddr Try.underlying29 rfl ti22 rfl (by decide)) _) rfl rfl ?_
      refine GoR.op ((oblk (i := 6) 0 hO rfl rfl Try.underlying22 rfl rfl) _ (Same.refl _)) rfl rfl ?_
      refine GoR.op ((op_move rfl) _) rfl rfl ?_
      obtain ⟨h65, H⟩ := H
      obtain ⟨h66, H⟩ := H
      refine GoR.op ((op_index Try.underlying22 ti26 rfl rfl h65 (ltn (bB.neq hO 5 rfl) h66) (bB.psome hO 5 rfl h65 h66)) _) rfl rfl ?_
      have hobt := oldSl 5 hO rfl bB h65 h66
      obtain ⟨p67, c68, C7, Iy⟩ := hobt
      refine GoR.op ((Iy Try.underlying26 rfl rfl) _ (Same.refl _)) rfl rfl ?_
      refine GoR.op ((op_move rfl) _) rfl rfl ?_
      obtain ⟨h71, H⟩ := H
      obtain ⟨h72, H⟩ := H
      refine GoR.op ((op_index Try.underlying26 ti3 rfl rfl h71 h72 (C7.some_ h71 h72)) _) rfl rfl ?_
      refine GoR.op ((ldInt C7 h71 h72 Try.underlying3 rfl rfl) _ (Same.refl _)) rfl rfl ?_
      refine GoR.op ((op_assign rfl) _) rfl rfl ?_
      refine GoR.nil ?_
      refine Go1.ret1V Try.func66 rfl (show _ = .int .i64 (ix (ix r14.Enum.Right i1_56) (IntKind.i64.wrap (IntKind.u8.wrap (((ix w_ (k1_57 : Int)).toNat : Int) - (97 : Int))))) from rfl) ?_
      refine hR61 _ _ ?_
      refine GoR.op ((op_assign rfl) _) rfl rfl ?_
      refine GoR.nil ?_
      refine Go1.inBlock ?_
      refine Go1.region ?_
      refine GoR.op ((op_add rfl rfl (wrap_i64 (natbd h58 nt))) _) rfl rfl ?_
      refine GoR.op ((op_move rfl) _) rfl rfl ?_
      refine GoR.nil ?_
      exact hX1 _ H _ _ ⟨⟨rfl, rfl, rfl, rfl, rfl, trivial⟩, hO, b5, bO, bM, b9, bB, bX, cJ, cw, b8, hB⟩
     replace H := ifn h58 H
     refine GoR.op ((fun w => opB (op_lss rfl rfl w) (decide_eq_false h58)) _) rfl rfl ?_
     refine GoR.nil ?_
     refine Go1.seq ?_
     refine Go1.condF rfl rfl ?_
     refine Go1.exit rfl ?_
     refine Go1.seq ?_
     refine Go1.region ?_
     refine GoR.op ((op_move rfl) _) rfl rfl ?_
     refine GoR.op ((op_assign rfl) _) rfl rfl ?_
     refine GoR.nil ?_
     refine Go1.ret1V Try.func59 rfl (show _ = .int .i64 i1_56 from rfl) ?_
     refine hR53 _ _ ?_
     refine GoR.op ((op_assign rfl) _) rfl rfl ?_
     refine GoR.nil ?_
     refine Go1.ret1 Try.func30 rfl ?_
     exact ⟨i1_56, rfl, hB.same, H⟩
    replace H := ifn h52 H
    refine GoR.op (opB ((oblk (i := 1) 0 hO rfl rfl Try.underlying4 rfl rfl) _ (Same.refl _)) (Bool.eq_false_iff.2 h52)) rfl rfl ?_
    refine GoR.op ((op_not rfl) _) rfl rfl ?_
    refine GoR.op ((op_pickT rfl rfl rfl) _) rfl rfl ?_
    refine GoR.op ((op_pickF rfl rfl rfl) _) rfl rfl ?_
    refine GoR.nil ?_
    refine Go1.condT rfl rfl ?_
    refine Go1.seq ?_
    refine Go1.cut [] trivial ?_
    intro σ _
    refine Go1.region ?_
    refine GoR.op ((op_assign rfl) _) rfl rfl ?_
    refine GoR.nil ?_
    refine Go1.ret1 Try.func30 rfl ?_
    exact ⟨(-1 : Int), rfl, hB.same, H⟩
   replace H := ifn h51 H
   refine GoR.op ((fun w => opB (op_eqlS rfl rfl w) (decide_eq_false h51)) _) rfl rfl ?_
   refine GoR.op ((op_move rfl) _) rfl rfl ?_
   refine GoR.pass rfl rfl ?_
   refine GoR.pass rfl rfl ?_
   refine GoR.pass rfl rfl ?_
   refine GoR.pass rfl rfl ?_
   refine GoR.pass rfl rfl ?_
   refine GoR.pass rfl rfl ?_
   refine GoR.op ((op_pickF rfl rfl rfl) _) rfl rfl ?_
   refine GoR.op ((op_pickF rfl rfl rfl) _) rfl rfl ?_
   refine GoR.nil ?_
   refine Go1.condF rfl rfl ?_
   refine Go1.skip ?_
   refine Go1.seq ?_
   refine Go1.region ?_
   refine GoR.op ((op_move rfl) _) rfl rfl ?_
   refine GoR.op ((op_move rfl) _) rfl rfl ?_
   refine GoR.inl (vs := [.pointer (some ⟨dO, 0, none⟩), .int .i64 (-1 : Int), .string (gstr w_)]) (caps := []) rfl rfl body59 Try.func59 rfl Try.ntmps59 rfl rfl rfl ?_
   intro RhR73 hR73
   refine Go1.seq ?_
   refine Go1.region ?_
   refine GoR.op ((op_assign rfl) _) rfl rfl ?_
   refine GoR.nil ?_
   refine Go1.seq ?_
   refine Go1.seq ?_
   refine Go1.region ?_
   refine GoR.op ((op_move rfl) _) rfl rfl ?_
   by_cases h74 : (-1 : Int) = (-1 : Int)
   ·replace H := ifp h74 H
    refine GoR.op ((fun w => opB (op_eql rfl rfl w) (decide_eq_true h74)) _) rfl rfl ?_
    refine GoR.op ((op_move rfl) _) rfl rfl ?_
    refine GoR.op ((op_move rfl) _) rfl rfl ?_
    refine GoR.op ((fun w => opB (op_eqlS rfl rfl w) (decide_eq_false h51)) _) rfl rfl ?_
    refine GoR.op ((op_pickT rfl rfl rfl) _) rfl rfl ?_
    refine GoR.nil ?_
    refine Go1.condF rfl rfl ?_
    refine Go1.skip ?_
    refine Go1.seq ?_
    refine Go1.seq ?_
    refine Go1.cut [(0, .pointer (some ⟨dO, 0, none⟩)), (1, .int .i64 (-1 : Int)), (2, .string (gstr w_))] ⟨rfl, rfl, rfl, trivial⟩ ?_
    intro σ _
    refine Go1.region ?_
    refine GoR.op ((op_move rfl) _) rfl rfl ?_
    refine GoR.op ((op_lenS Try.underlying9 rfl) _) rfl rfl ?_
    replace H := H nt
    refine GoR.op ((op_move rfl) _) rfl rfl ?_
    refine GoR.nil ?_
    refine Go1.block ?_
    replace ah := ah.ch (Owns.dropCh _ _ 11)
    replace ae := ae.ch (Owns.dropCh _ _ 11)
    replace ad := ad.ch (Owns.dropCh _ _ 11)
    replace ai := ai.ch (Owns.dropCh _ _ 11)
    replace af := af.ch (Owns.dropCh _ _ 11)
    replace ag := ag.ch (Owns.dropCh _ _ 11)
    replace b5 := b5.ch (Owns.dropCh _ _ 11)
    replace bO := bO.ch (Owns.dropCh _ _ 11)
    replace bM := bM.ch (Owns.dropCh _ _ 11)
    replace b9 := b9.ch (Owns.dropCh _ _ 11)
    replace bB := bB.ch (Owns.dropCh _ _ 11)
    replace bX := bX.ch (Owns.dropCh _ _ 11)
    replace cJ := cJ.ch (Owns.dropCh _ _ 11)
    replace cw := cw.ch (Owns.dropCh _ _ 11)
    replace b8 := b8.ch (Owns.dropCh _ _ 11)
    replace hB := hB.trans (Owns.dropFr _ _ 11)
    replace hO := hO.drop 11
    dsimp only [eS, eZ] at hB hO ah ae ad ai af ag b5 bO bM b9 bB bX cJ cw b8
    replace ah := ah.ch (Owns.dropCh _ _ 11)
    replace ae := ae.ch (Owns.dropCh _ _ 11)
    replace ad := ad.ch (Owns.dropCh _ _ 11)
    replace ai := ai.ch (Owns.dropCh _ _ 11)
    replace af := af.ch (Owns.dropCh _ _ 11)
    replace ag := ag.ch (Owns.dropCh _ _ 11)
    replace b5 := b5.ch (Owns.dropCh _ _ 11)
    replace bO := bO.ch (Owns.dropCh _ _ 11)
    replace bM := bM.ch (Owns.dropCh _ _ 11)
    replace b9 := b9.ch (Owns.dropCh _ _ 11)
    replace bB := bB.ch (Owns.dropCh _ _ 11)
    replace bX := bX.ch (Owns.dropCh _ _ 11)
    replace cJ := cJ.ch (Owns.dropCh _ _ 11)
    replace cw := cw.ch (Owns.dropCh _ _ 11)
    replace b8 := b8.ch (Owns.dropCh _ _ 11)
    replace hB := hB.trans (Owns.dropFr _ _ 11)
    replace hO := hO.drop 11
    dsimp only [eS, eZ] at hB hO ah ae ad ai af ag b5 bO bM b9 bB bX cJ cw b8
    refine Go1.loopW (S := Int × Nat) (fun s σ w => match s with | (i2_76, k2_77) => agrees σ [(0, .pointer (some ⟨dO, 0, none⟩)), (1, .int .i64 i2_76), (2, .string (gstr w_)), (15, .int .i64 (w_.length : Int)), (16, .int .i64 (k2_77 : Int))] ∧ Owns w0.heap.size w [.blk dO (.cells #[.int .i64 r14.Enum.Points, .bool r14.Enum.Monoid, .slice aG aF aH, .slice aw av ax, .slice al ak am, .slice aJ aI aK, .slice az ay aA, .slice aC aB aD, .int .i64 r14.Enum.Done, .map (some bt), .slice bH bG bI, .slice bv bu bw, .slice bz bx bA] 72 (0, 0)), .row 26 1 aG aF aH cd, .row 26 1 aw av ax bY, .row 3 1 al ak am bN, .row 3 1 aJ aI aK ce, .row 26 1 az ay aA bZ, .row 39 2 aC aB aD b4, .row 9 1 bH bG bI cP, .row 3 1 bv bu bw cy, .row 3 1 bz bx bA cz, .any (mapE (fun a : List UInt8 => Value.string (gstr a)) (fun a : Int => Value.int .i64 a) bt r14.number)] A ∧ Els (Rp.sl (Rp.int .i64)) (bl [.blk dO (.cells #[.int .i64 r14.Enum.Points, .bool r14.Enum.Monoid, .slice aG aF aH, .slice aw av ax, .slice al ak am, .slice aJ aI aK, .slice az ay aA, .slice aC aB aD, .int .i64 r14.Enum.Done, .map (some bt), .slice bH bG bI, .slice bv bu bw, .slice bz bx bA] 72 (0, 0)), .row 26 1 aG aF aH cd, .row 26 1 aw av ax bY, .row 3 1 al ak am bN, .row 3 1 aJ aI aK ce, .row 26 1 az ay aA bZ, .row 39 2 aC aB aD b4, .row 9 1 bH bG bI cP, .row 3 1 bv bu bw cy, .row 3 1 bz bx bA cz, .any (mapE (fun a : List UInt8 => Value.string (gstr a)) (fun a : Int => Value.int .i64 a) bt r14.number)] ++ A) w cd r14.Enum.Gens ∧ Els (Rp.sl (Rp.int .i64)) (bl [.blk dO (.cells #[.int .i64 r14.Enum.Points, .bool r14.Enum.Monoid, .slice aG aF aH, .slice aw av ax, .slice al ak am, .slice aJ aI aK, .slice az ay aA, .slice aC aB aD, .int .i64 r14.Enum.Done, .map (some bt), .slice bH bG bI, .slice bv bu bw, .slice bz bx bA] 72 (0, 0)), .row 26 1 aG aF aH cd, .row 26 1 aw av ax bY, .row 3 1 al ak am bN, .row 3 1 aJ aI aK ce, .row 26 1 az ay aA bZ, .row 39 2 aC aB aD b4, .row 9 1 bH bG bI cP, .row 3 1 bv bu bw cy, .row 3 1 bz bx bA cz, .any (mapE (fun a : List UInt8 => Value.string (gstr a)) (fun a : Int => Value.int .i64 a) bt r14.number)] ++ A) w bY r14.Enum.Elems ∧ Els (Rp.int .i64) (bl [.blk dO (.cells #[.int .i64 r14.Enum.Points, .bool r14.Enum.Monoid, .slice aG aF aH, .slice aw av ax, .slice al ak am, .slice aJ aI aK, .slice az ay aA, .slice aC aB aD, .int .i64 r14.Enum.Done, .map (some bt), .slice bH bG bI, .slice bv bu bw, .slice bz bx bA] 72 (0, 0)), .row 26 1 aG aF aH cd, .row 26 1 aw av ax bY, .row 3 1 al ak am bN, .row 3 1 aJ aI aK ce, .row 26 1 az ay aA bZ, .row 39 2 aC aB aD b4, .row 9 1 bH bG bI cP, .row 3 1 bv bu bw cy, .row 3 1 bz bx bA cz, .any (mapE (fun a : List UInt8 => Value.string (gstr a)) (fun a : Int => Value.int .i64 a) bt r14.number)] ++ A) w bN r14.Enum.Prefix ∧ Els (Rp.int .i64) (bl [.blk dO (.cells #[.int .i64 r14.Enum.Points, .bool r14.Enum.Monoid, .slice aG aF aH, .slice aw av ax, .slice al ak am, .slice aJ aI aK, .slice az ay aA, .slice aC aB aD, .int .i64 r14.Enum.Done, .map (some bt), .slice bH bG bI, .slice bv bu bw, .slice bz bx bA] 72 (0, 0)), .row 26 1 aG aF aH cd, .row 26 1 aw av ax bY, .row 3 1 al ak am bN, .row 3 1 aJ aI aK ce, .row 26 1 az ay aA bZ, .row 39 2 aC aB aD b4, .row 9 1 bH bG bI cP, .row 3 1 bv bu bw cy, .row 3 1 bz bx bA cz, .any (mapE (fun a : List UInt8 => Value.string (gstr a)) (fun a : Int => Value.int .i64 a) bt r14.number)] ++ A) w ce r14.Enum.Last ∧ Els (Rp.sl (Rp.int .i64)) (bl [.blk dO (.cells #[.int .i64 r14.Enum.Points, .bool r14.Enum.Monoid, .slice aG aF aH, .slice aw av ax, .slice al ak am, .slice aJ aI aK, .slice az ay aA, .slice aC aB aD, .int .i64 r14.Enum.Done, .map (some bt), .slice bH bG bI, .slice bv bu bw, .slice bz bx bA] 72 (0, 0)), .row 26 1 aG aF aH cd, .row 26 1 aw av ax bY, .row 3 1 al ak am bN, .row 3 1 aJ aI aK ce, .row 26 1 az ay aA bZ, .row 39 2 aC aB aD b4, .row 9 1 bH bG bI cP, .row 3 1 bv bu bw cy, .row 3 1 bz bx bA cz, .any (mapE (fun a : List UInt8 => Value.string (gstr a)) (fun a : Int => Value.int .i64 a) bt r14.number)] ++ A) w bZ r14.Enum.Right ∧ Els (rpRule) (bl [.blk dO (.cells #[.int .i64 r14.Enum.Points, .bool r14.Enum.Monoid, .slice aG aF aH, .slice aw av ax, .slice al ak am, .slice aJ aI aK, .slice az ay aA, .slice aC aB aD, .int .i64 r14.Enum.Done, .map (some bt), .slice bH bG bI, .slice bv bu bw, .slice bz bx bA] 72 (0, 0)), .row 26 1 aG aF aH cd, .row 26 1 aw av ax bY, .row 3 1 al ak am bN, .row 3 1 aJ aI aK ce, .row 26 1 az ay aA bZ, .row 39 2 aC aB aD b4, .row 9 1 bH bG bI cP, .row 3 1 bv bu bw cy, .row 3 1 bz bx bA cz, .any (mapE (fun a : List UInt8 => Value.string (gstr a)) (fun a : Int => Value.int .i64 a) bt r14.number)] ++ A) w b4 r14.Enum.Rules ∧ Els (Rp.str) (bl [.blk dO (.cells #[.int .i64 r14.Enum.Points, .bool r14.Enum.Monoid, .slice aG aF aH, .slice aw av ax, .slice al ak am, .slice aJ aI aK, .slice az ay aA, .slice aC aB aD, .int .i64 r14.Enum.Done, .map (some bt), .slice bH bG bI, .slice bv bu bw, .slice bz bx bA] 72 (0, 0)), .row 26 1 aG aF aH cd, .row 26 1 aw av ax bY, .row 3 1 al ak am bN, .row 3 1 aJ aI aK ce, .row 26 1 az ay aA bZ, .row 39 2 aC aB aD b4, .row 9 1 bH bG bI cP, .row 3 1 bv bu bw cy, .row 3 1 bz bx bA cz, .any (mapE (fun a : List UInt8 => Value.string (gstr a)) (fun a : Int => Value.int .i64 a) bt r14.number)] ++ A) w cP r14.words ∧ Els (Rp.int .i64) (bl [.blk dO (.cells #[.int .i64 r14.Enum.Points, .bool r14.Enum.Monoid, .slice aG aF aH, .slice aw av ax, .slice al ak am, .slice aJ aI aK, .slice az ay aA, .slice aC aB aD, .int .i64 r14.Enum.Done, .map (some bt), .slice bH bG bI, .slice bv bu bw, .slice bz bx bA] 72 (0, 0)), .row 26 1 aG aF aH cd, .row 26 1 aw av ax bY, .row 3 1 al ak am bN, .row 3 1 aJ aI aK ce, .row 26 1 az ay aA bZ, .row 39 2 aC aB aD b4, .row 9 1 bH bG bI cP, .row 3 1 bv bu bw cy, .row 3 1 bz bx bA cz, .any (mapE (fun a : List UInt8 => Value.string (gstr a)) (fun a : Int => Value.int .i64 a) bt r14.number)] ++ A) w cy r14.behind ∧ Els (Rp.int .i64) (bl [.blk dO (.cells #[.int .i64 r14.Enum.Points, .bool r14.Enum.Monoid, .slice aG aF aH, .slice aw av ax, .slice al ak am, .slice aJ aI aK, .slice az ay aA, .slice aC aB aD, .int .i64 r14.Enum.Done, .map (some bt), .slice bH bG bI, .slice bv bu bw, .slice bz bx bA] 72 (0, 0)), .row 26 1 aG aF aH cd, .row 26 1 aw av ax bY, .row 3 1 al ak am bN, .row 3 1 aJ aI aK ce, .row 26 1 az ay aA bZ, .row 39 2 aC aB aD b4, .row 9 1 bH bG bI cP, .row 3 1 bv bu bw cy, .row 3 1 bz bx bA cz, .any (mapE (fun a : List UInt8 => Value.string (gstr a)) (fun a : Int => Value.int .i64 a) bt r14.number)] ++ A) w cz r14.single ∧ Fr (bl []) w0 (bl [.blk dO (.cells #[.int .i64 r14.Enum.Points, .bool r14.Enum.Monoid, .slice aG aF aH, .slice aw av ax, .slice al ak am, .slice aJ aI aK, .slice az ay aA, .slice aC aB aD, .int .i64 r14.Enum.Done, .map (some bt), .slice bH bG bI, .slice bv bu bw, .slice bz bx bA] 72 (0, 0)), .row 26 1 aG aF aH cd, .row 26 1 aw av ax bY, .row 3 1 al ak am bN, .row 3 1 aJ aI aK ce, .row 26 1 az ay aA bZ, .row 39 2 aC aB aD b4, .row 9 1 bH bG bI cP, .row 3 1 bv bu bw cy, .row 3 1 bz bx bA cz, .any (mapE (fun a : List UInt8 => Value.string (gstr a)) (fun a : Int => Value.int .i64 a) bt r14.number)]) w) H ⟨⟨rfl, rfl, rfl, rfl, rfl, trivial⟩, hO, b5, bO, bM, b9, bB, bX, cJ, cw, b8, hB⟩ ?_
    intro X2
    refine prE fun i2_76 => fun k2_77 => ?_
    intro H hX2 σ w75
    refine andE fun hag => andE fun hO => andE fun b5 => andE fun bO => andE fun bM => andE fun b9 => andE fun bB => andE fun bX => andE fun cJ => andE fun cw => andE fun b8 => fun hB => ?_
    dsimp only at H
    refine Go1.keep [(0, .pointer (some ⟨dO, 0, none⟩)), (1, .int .i64 i2_76), (2, .string (gstr w_)), (15, .int .i64 (w_.length : Int)), (16, .int .i64 (k2_77 : Int))] hag ?_
    refine Go1.seq ?_
    refine Go1.region ?_
    by_cases h78 : (k2_77 : Int) < (w_.length : Int)
    ·replace H := ifp h78 H
     refine GoR.op ((fun w => opB (op_lss rfl rfl w) (decide_eq_true h78)) _) rfl rfl ?_
     refine GoR.nil ?_
     refine Go1.seq ?_
     refine Go1.condT rfl rfl ?_
     refine Go1.skip ?_
     refine Go1.seq ?_
     refine Go1.block ?_
     refine Go1.seq ?_
     refine Go1.region ?_
     refine GoR.op ((op_move rfl) _) rfl rfl ?_
     refine GoR.op ((op_assign rfl) _) rfl rfl ?_
     refine GoR.nil ?_
     refine Go1.region ?_
     refine GoR.op ((op_move rfl) _) rfl rfl ?_
     refine GoR.op ((op_move rfl) _) rfl rfl ?_
     refine GoR.op ((op_move rfl) _) rfl rfl ?_
     refine GoR.op ((op_move rfl) _) rfl rfl ?_
     obtain ⟨h79, H⟩ := H
     obtain ⟨h80, H⟩ := H
     refine GoR.op ((op_indexS Try.underlying9 rfl rfl h79 h80) _) rfl rfl ?_
     refine GoR.op ((op_sub rfl rfl rfl) _) rfl rfl ?_
     refine GoR.op ((op_conv Try.underlying5 Try.underlying3 rfl rfl) _) rfl rfl ?_
     refine GoR.inl (vs := [.pointer (some ⟨dO, 0, none⟩), .int .i64 i2_76, .int .i64 (IntKind.i64.wrap (IntKind.u8.wrap (((ix w_ (k2_77 : Int)).toNat : Int) - (97 : Int))))]) (caps := []) rfl rfl body66 Try.func66 rfl Try.ntmps66 rfl rfl rfl ?_
     intro RhR81 hR81
     refine Go1.seq ?_
     refine Go1.region ?_
     refine GoR.op ((op_assign rfl) _) rfl rfl ?_
     refine GoR.nil ?_
     refine Go1.seq ?_
     refine Go1.seq ?_
     refine Go1.region ?_
     refine GoR.op ((op_move rfl) _) rfl rfl ?_
     by_cases h82 : i2_76 = (-1 : Int)
     ·replace H := ifp h82 H
      refine GoR.op ((fun w => opB (op_eql rfl rfl w) (decide_eq_true h82)) _) rfl rfl ?_
      refine GoR.nil ?_
      refine Go1.condT rfl rfl ?_
      refine Go1.seq ?_
      refine Go1.region ?_
      refine GoR.op ((op_move rfl) _) rfl rfl ?_
      refine GoR.op ((op_nilCheck rfl) _) rfl rfl ?_
      refine GoR.op ((op_fieldAddr Try.underlying72 rfl ti26 rfl (by decide)) _) rfl rfl ?_
      refine GoR.op ((oblk (i := 12) 0 hO rfl rfl Try.underlying26 rfl rfl) _ (Same.refl _)) rfl rfl ?_
      refine GoR.op ((op_move rfl) _) rfl rfl ?_
      obtain ⟨h83, H⟩ := H
      obtain ⟨h84, H⟩ := H
      refine GoR.op ((op_index Try.underlying26 ti3 rfl rfl h83 (ltn (b8.neq hO 9 rfl) h84) (b8.psome hO 9 rfl h83 h84)) _) rfl rfl ?_
      refine GoR.op ((oldInt 9 hO rfl b8 h83 h84 Try.underlying3 rfl rfl) _ (Same.refl _)) rfl rfl ?_
      refine GoR.op ((op_assign rfl) _) rfl rfl ?_
      refine GoR.nil ?_
      refine Go1.ret1V Try.func66 rfl (show _ = .int .i64 (ix r14.single (IntKind.i64.wrap (IntKind.u8.wrap (((ix w_ (k2_77 : Int)).toNat : Int) - (97 : Int))))) from rfl) ?_
      refine hR81 _ _ ?_
      refine GoR.op ((op_assign rfl) _) rfl rfl ?_
      refine GoR.nil ?_
      refine Go1.inBlock ?_
      refine Go1.cut [(0, .pointer (some ⟨dO, 0, none⟩)), (1, .int .i64 (ix r14.single (IntKind.i64.wrap (IntKind.u8.wrap (((ix w_ (k2_77 : Int)).toNat : Int) - (97 : Int)))))), (2, .string (gstr w_)), (15, .int .i64 (w_.length : Int)), (16, .int .i64 (k2_77 : Int))] ⟨rfl, rfl, rfl, rfl, rfl, trivial⟩ ?_
      intro σ _
      refine Go1.region ?_
      refine GoR.op ((op_add rfl rfl (wrap_i64 (natbd h78 nt))) _) rfl rfl ?_
      refine GoR.op ((op_move rfl) _) rfl rfl ?_
      refine GoR.nil ?_
      exact hX2 _ H _ _ ⟨⟨rfl, rfl, rfl, rfl, rfl, trivial⟩, hO, b5, bO, bM, b9, bB, bX, cJ, cw, b8, hB⟩
     replace H := ifn h82 H
     refine GoR.op ((fun w => opB (op_eql rfl rfl w) (decide_eq_false h82)) _) rfl rfl ?_
     refine GoR.nil ?_
     refine Go1.condF rfl rfl ?_
     refine Go1.skip ?_
     refine Go1.seq ?_
     refine Go1.region ?_
     refine GoR.op ((op_move rfl) _) rfl rfl ?_
     refine GoR.op ((op_nilCheck rfl) _) rfl rfl ?_
     refine GoR.op ((op_fieldAddr Try.underlying72 rfl ti29 rfl (by decide)) _) rfl rfl ?_
     refine GoR.op ((op_fieldAddr Try.underlying29 rfl ti22 rfl (by decide)) _) rfl rfl ?_
     refine GoR.op ((oblk (i := 6) 0 hO rfl rfl Try.underlying22 rfl rfl) _ (Same.refl _)) rfl rfl ?_
     refine GoR.op ((op_move rfl) _) rfl rfl ?_
     obtain ⟨h85, H⟩ := H
     obtain ⟨h86, H⟩ := H
     refine GoR.op ((op_index Try.underlying22 ti26 rfl rfl h85 (ltn (bB.neq hO 5 rfl) h86) (bB.psome hO 5 rfl h85 h86)) _) rfl rfl ?_
     have hobt := oldSl 5 hO rfl bB h85 h86
     obtain ⟨p87, c88, C8, Iz⟩ := hobt
     refine GoR.op ((Iz Try.underlying26 rfl rfl) _ (Same.refl _)) rfl rfl ?_
     refine GoR.op ((op_move rfl) _) rfl rfl ?_
     obtain ⟨h91, H⟩ := H
     obtain ⟨h92, H⟩ := H
     refine GoR.op ((op_index Try.underlying26 ti3 rfl rfl h91 h92 (C8.some_ h91 h92)) _) rfl rfl ?_
     refine GoR.op ((ldInt C8 h91 h92 Try.underlying3 rfl rfl) _ (Same.refl _)) rfl rfl ?_
     refine GoR.op ((op_assign rfl) _) rfl rfl ?_
     refine GoR.nil ?_
     refine Go1.ret1V Try.func66 rfl (show _ = .int .i64 (ix (ix r14.Enum.Right i2_76) (IntKind.i64.wrap (IntKind.u8.wrap (((ix w_ (k2_77 : Int)).toNat : Int) - (97 : Int))))) from rfl) ?_
     refine hR81 _ _ ?_
     refine GoR.op ((op_assign rfl) _) rfl rfl ?_
     refine GoR.nil ?_
     refine Go1.inBlock ?_
     refine Go1.region ?_
     refine GoR.op ((op_add rfl rfl (wrap_i64 (natbd h78 nt))) _) rfl rfl ?_
     refine GoR.op ((op_move rfl) _) rfl rfl ?_
     refine GoR.nil ?_
     exact hX2 _ H _ _ ⟨⟨rfl, rfl, rfl, rfl, rfl, trivial⟩, hO, b5, bO, bM, b9, bB, bX, cJ, cw, b8, hB⟩
    replace H := ifn h78 H
    refine GoR.op ((fun w => opB (op_lss rfl rfl w) (decide_eq_false h78)) _) rfl rfl ?_
    refine GoR.nil ?_
    refine Go1.seq ?_
    refine Go1.condF rfl rfl ?_
    refine Go1.exit rfl ?_
    refine Go1.seq ?_
    refine Go1.region ?_
    refine GoR.op ((op_move rfl) _) rfl rfl ?_
    refine GoR.op ((op_assign rfl) _) rfl rfl ?_
    refine GoR.nil ?_
    refine Go1.ret1V Try.func59 rfl (show _ = .int .i64 i2_76 from rfl) ?_
    refine hR73 _ _ ?_
    refine GoR.op ((op_assign rfl) _) rfl rfl ?_
    refine GoR.nil ?_
    refine Go1.ret1 Try.func30 rfl ?_
    exact ⟨i2_76, rfl, hB.same, H⟩
   replace H := ifn h74 H
   refine GoR.op ((fun w => opB (op_eql rfl rfl w) (decide_eq_false h74)) _) rfl rfl ?_
   refine GoR.op ((op_move rfl) _) rfl rfl ?_
   refine GoR.pass rfl rfl ?_
   refine GoR.pass rfl rfl ?_
   refine GoR.op ((op_pickF rfl rfl rfl) _) rfl rfl ?_
   refine GoR.nil ?_
   refine Go1.condF rfl rfl ?_
   refine Go1.skip ?_
   refine Go1.seq ?_
   refine Go1.seq ?_
   refine Go1.cut [(0, .pointer (some ⟨dO, 0, none⟩)), (1, .int .i64 (-1 : Int)), (2, .string (gstr w_))] ⟨rfl, rfl, rfl, trivial⟩ ?_
   intro σ _
   refine Go1.region ?_
   refine GoR.op ((op_move rfl) _) rfl rfl ?_
   refine GoR.op ((op_lenS Try.underlying9 rfl) _) rfl rfl ?_
   replace H := H nt
   refine GoR.op ((op_move rfl) _) rfl rfl ?_
   refine GoR.nil ?_
   refine Go1.block ?_
   replace ah := ah.ch (Owns.dropCh _ _ 11)
   replace ae := ae.ch (Owns.dropCh _ _ 11)
   replace ad := ad.ch (Owns.dropCh _ _ 11)
   replace ai := ai.ch (Owns.dropCh _ _ 11)
   replace af := af.ch (Owns.dropCh _ _ 11)
   replace ag := ag.ch (Owns.dropCh _ _ 11)
   replace b5 := b5.ch (Owns.dropCh _ _ 11)
   replace bO := bO.ch (Owns.dropCh _ _ 11)
   replace bM := bM.ch (Owns.dropCh _ _ 11)
   replace b9 := b9.ch (Owns.dropCh _ _ 11)
   replace bB := bB.ch (Owns.dropCh _ _ 11)
   replace bX := bX.ch (Owns.dropCh _ _ 11)
   replace cJ := cJ.ch (Owns.dropCh _ _ 11)
   replace cw := cw.ch (Owns.dropCh _ _ 11)
   replace b8 := b8.ch (Owns.dropCh _ _ 11)
   replace hB := hB.trans (Owns.dropFr _ _ 11)
   replace hO := hO.drop 11
   dsimp only [eS, eZ] at hB hO ah ae ad ai af ag b5 bO bM b9 bB bX cJ cw b8
   replace ah := ah.ch (Owns.dropCh _ _ 11)
   replace ae := ae.ch (Owns.dropCh _ _ 11)
   replace ad := ad.ch (Owns.dropCh _ _ 11)
   replace ai := ai.ch (Owns.dropCh _ _ 11)
   replace af := af.ch (Owns.dropCh _ _ 11)
   replace ag := ag.ch (Owns.dropCh _ _ 11)
   replace b5 := b5.ch (Owns.dropCh _ _ 11)
   replace bO := bO.ch (Owns.dropCh _ _ 11)
   replace bM := bM.ch (Owns.dropCh _ _ 11)
   replace b9 := b9.ch (Owns.dropCh _ _ 11)
   replace bB := bB.ch (Owns.dropCh _ _ 11)
   replace bX := bX.ch (Owns.dropCh _ _ 11)
   replace cJ := cJ.ch (Owns.dropCh _ _ 11)
   replace cw := cw.ch (Owns.dropCh _ _ 11)
   replace b8 := b8.ch (Owns.dropCh _ _ 11)
   replace hB := hB.trans (Owns.dropFr _ _ 11)
   replace hO := hO.drop 11
   dsimp only [eS, eZ] at hB hO ah ae ad ai af ag b5 bO bM b9 bB bX cJ cw b8
   refine Go1.loopW (S := Int × Nat) (fun s σ w => match s with | (i3_94, k3_95) => agrees σ [(0, .pointer (some ⟨dO, 0, none⟩)), (1, .int .i64 i3_94), (2, .string (gstr w_)), (15, .int .i64 (w_.length : Int)), (16, .int .i64 (k3_95 : Int))] ∧ Owns w0.heap.size w [.blk dO (.cells #[.int .i64 r14.Enum.Points, .bool r14.Enum.Monoid, .slice aG aF aH, .slice aw av ax, .slice al ak am, .slice aJ aI aK, .slice az ay aA, .slice aC aB aD, .int .i64 r14.Enum.Done, .map (some bt), .slice bH bG bI, .slice bv bu bw, .slice bz bx bA] 72 (0, 0)), .row 26 1 aG aF aH cd, .row 26 1 aw av ax bY, .row 3 1 al ak am bN, .row 3 1 aJ aI aK ce, .row 26 1 az ay aA bZ, .row 39 2 aC aB aD b4, .row 9 1 bH bG bI cP, .row 3 1 bv bu bw cy, .row 3 1 bz bx bA cz, .any (mapE (fun a : List UInt8 => Value.string (gstr a)) (fun a : Int => Value.int .i64 a) bt r14.number)] A ∧ Els (Rp.sl (Rp.int .i64)) (bl [.blk dO (.cells #[.int .i64 r14.Enum.Points, .bool r14.Enum.Monoid, .slice aG aF aH, .slice aw av ax, .slice al ak am, .slice aJ aI aK, .slice az ay aA, .slice aC aB aD, .int .i64 r14.Enum.Done, .map (some bt), .slice bH bG bI, .slice bv bu bw, .slice bz bx bA] 72 (0, 0)), .row 26 1 aG aF aH cd, .row 26 1 aw av ax bY, .row 3 1 al ak am bN, .row 3 1 aJ aI aK ce, .row 26 1 az ay aA bZ, .row 39 2 aC aB aD b4, .row 9 1 bH bG bI cP, .row 3 1 bv bu bw cy, .row 3 1 bz bx bA cz, .any (mapE (fun a : List UInt8 => Value.string (gstr a)) (fun a : Int => Value.int .i64 a) bt r14.number)] ++ A) w cd r14.Enum.Gens ∧ Els (Rp.sl (Rp.int .i64)) (bl [.blk dO (.cells #[.int .i64 r14.Enum.Points, .bool r14.Enum.Monoid, .slice aG aF aH, .slice aw av ax, .slice al ak am, .slice aJ aI aK, .slice az ay aA, .slice aC aB aD, .int .i64 r14.Enum.Done, .map (some bt), .slice bH bG bI, .slice bv bu bw, .slice bz bx bA] 72 (0, 0)), .row 26 1 aG aF aH cd, .row 26 1 aw av ax bY, .row 3 1 al ak am bN, .row 3 1 aJ aI aK ce, .row 26 1 az ay aA bZ, .row 39 2 aC aB aD b4, .row 9 1 bH bG bI cP, .row 3 1 bv bu bw cy, .row 3 1 bz bx bA cz, .any (mapE (fun a : List UInt8 => Value.string (gstr a)) (fun a : Int => Value.int .i64 a) bt r14.number)] ++ A) w bY r14.Enum.Elems ∧ Els (Rp.int .i64) (bl [.blk dO (.cells #[.int .i64 r14.Enum.Points, .bool r14.Enum.Monoid, .slice aG aF aH, .slice aw av ax, .slice al ak am, .slice aJ aI aK, .slice az ay aA, .slice aC aB aD, .int .i64 r14.Enum.Done, .map (some bt), .slice bH bG bI, .slice bv bu bw, .slice bz bx bA] 72 (0, 0)), .row 26 1 aG aF aH cd, .row 26 1 aw av ax bY, .row 3 1 al ak am bN, .row 3 1 aJ aI aK ce, .row 26 1 az ay aA bZ, .row 39 2 aC aB aD b4, .row 9 1 bH bG bI cP, .row 3 1 bv bu bw cy, .row 3 1 bz bx bA cz, .any (mapE (fun a : List UInt8 => Value.string (gstr a)) (fun a : Int => Value.int .i64 a) bt r14.number)] ++ A) w bN r14.Enum.Prefix ∧ Els (Rp.int .i64) (bl [.blk dO (.cells #[.int .i64 r14.Enum.Points, .bool r14.Enum.Monoid, .slice aG aF aH, .slice aw av ax, .slice al ak am, .slice aJ aI aK, .slice az ay aA, .slice aC aB aD, .int .i64 r14.Enum.Done, .map (some bt), .slice bH bG bI, .slice bv bu bw, .slice bz bx bA] 72 (0, 0)), .row 26 1 aG aF aH cd, .row 26 1 aw av ax bY, .row 3 1 al ak am bN, .row 3 1 aJ aI aK ce, .row 26 1 az ay aA bZ, .row 39 2 aC aB aD b4, .row 9 1 bH bG bI cP, .row 3 1 bv bu bw cy, .row 3 1 bz bx bA cz, .any (mapE (fun a : List UInt8 => Value.string (gstr a)) (fun a : Int => Value.int .i64 a) bt r14.number)] ++ A) w ce r14.Enum.Last ∧ Els (Rp.sl (Rp.int .i64)) (bl [.blk dO (.cells #[.int .i64 r14.Enum.Points, .bool r14.Enum.Monoid, .slice aG aF aH, .slice aw av ax, .slice al ak am, .slice aJ aI aK, .slice az ay aA, .slice aC aB aD, .int .i64 r14.Enum.Done, .map (some bt), .slice bH bG bI, .slice bv bu bw, .slice bz bx bA] 72 (0, 0)), .row 26 1 aG aF aH cd, .row 26 1 aw av ax bY, .row 3 1 al ak am bN, .row 3 1 aJ aI aK ce, .row 26 1 az ay aA bZ, .row 39 2 aC aB aD b4, .row 9 1 bH bG bI cP, .row 3 1 bv bu bw cy, .row 3 1 bz bx bA cz, .any (mapE (fun a : List UInt8 => Value.string (gstr a)) (fun a : Int => Value.int .i64 a) bt r14.number)] ++ A) w bZ r14.Enum.Right ∧ Els (rpRule) (bl [.blk dO (.cells #[.int .i64 r14.Enum.Points, .bool r14.Enum.Monoid, .slice aG aF aH, .slice aw av ax, .slice al ak am, .slice aJ aI aK, .slice az ay aA, .slice aC aB aD, .int .i64 r14.Enum.Done, .map (some bt), .slice bH bG bI, .slice bv bu bw, .slice bz bx bA] 72 (0, 0)), .row 26 1 aG aF aH cd, .row 26 1 aw av ax bY, .row 3 1 al ak am bN, .row 3 1 aJ aI aK ce, .row 26 1 az ay aA bZ, .row 39 2 aC aB aD b4, .row 9 1 bH bG bI cP, .row 3 1 bv bu bw cy, .row 3 1 bz bx bA cz, .any (mapE (fun a : List UInt8 => Value.string (gstr a)) (fun a : Int => Value.int .i64 a) bt r14.number)] ++ A) w b4 r14.Enum.Rules ∧ Els (Rp.str) (bl [.blk dO (.cells #[.int .i64 r14.Enum.Points, .bool r14.Enum.Monoid, .slice aG aF aH, .slice aw av ax, .slice al ak am, .slice aJ aI aK, .slice az ay aA, .slice aC aB aD, .int .i64 r14.Enum.Done, .map (some bt), .slice bH bG bI, .slice bv bu bw, .slice bz bx bA] 72 (0, 0)), .row 26 1 aG aF aH cd, .row 26 1 aw av ax bY, .row 3 1 al ak am bN, .row 3 1 aJ aI aK ce, .row 26 1 az ay aA bZ, .row 39 2 aC aB aD b4, .row 9 1 bH bG bI cP, .row 3 1 bv bu bw cy, .row 3 1 bz bx bA cz, .any (mapE (fun a : List UInt8 => Value.string (gstr a)) (fun a : Int => Value.int .i64 a) bt r14.number)] ++ A) w cP r14.words ∧ Els (Rp.int .i64) (bl [.blk dO (.cells #[.int .i64 r14.Enum.Points, .bool r14.Enum.Monoid, .slice aG aF aH, .slice aw av ax, .slice al ak am, .slice aJ aI aK, .slice az ay aA, .slice aC aB aD, .int .i64 r14.Enum.Done, .map (some bt), .slice bH bG bI, .slice bv bu bw, .slice bz bx bA] 72 (0, 0)), .row 26 1 aG aF aH cd, .row 26 1 aw av ax bY, .row 3 1 al ak am bN, .row 3 1 aJ aI aK ce, .row 26 1 az ay aA bZ, .row 39 2 aC aB aD b4, .row 9 1 bH bG bI cP, .row 3 1 bv bu bw cy, .row 3 1 bz bx bA cz, .any (mapE (fun a : List UInt8 => Value.string (gstr a)) (fun a : Int => Value.int .i64 a) bt r14.number)] ++ A) w cy r14.behind ∧ Els (Rp.int .i64) (bl [.blk dO (.cells #[.int .i64 r14.Enum.Points, .bool r14.Enum.Monoid, .slice aG aF aH, .slice aw av ax, .slice al ak am, .slice aJ aI aK, .slice az ay aA, .slice aC aB aD, .int .i64 r14.Enum.Done, .map (some bt), .slice bH bG bI, .slice bv bu bw, .slice bz bx bA] 72 (0, 0)), .row 26 1 aG aF aH cd, .row 26 1 aw av ax bY, .row 3 1 al ak am bN, .row 3 1 aJ aI aK ce, .row 26 1 az ay aA bZ, .row 39 2 aC aB aD b4, .row 9 1 bH bG bI cP, .row 3 1 bv bu bw cy, .row 3 1 bz bx bA cz, .any (mapE (fun a : List UInt8 => Value.string (gstr a)) (fun a : Int => Value.int .i64 a) bt r14.number)] ++ A) w cz r14.single ∧ Fr (bl []) w0 (bl [.blk dO (.cells #[.int .i64 r14.Enum.Points, .bool r14.Enum.Monoid, .slice aG aF aH, .slice aw av ax, .slice al ak am, .slice aJ aI aK, .slice az ay aA, .slice aC aB aD, .int .i64 r14.Enum.Done, .map (some bt), .slice bH bG bI, .slice bv bu bw, .slice bz bx bA] 72 (0, 0)), .row 26 1 aG aF aH cd, .row 26 1 aw av ax bY, .row 3 1 al ak am bN, .row 3 1 aJ aI aK ce, .row 26 1 az ay aA bZ, .row 39 2 aC aB aD b4, .row 9 1 bH bG bI cP, .row 3 1 bv bu bw cy, .row 3 1 bz bx bA cz, .any (mapE (fun a : List UInt8 => Value.string (gstr a)) (fun a : Int => Value.int .i64 a) bt r14.number)]) w) H ⟨⟨rfl, rfl, rfl, rfl, rfl, trivial⟩, hO, b5, bO, bM, b9, bB, bX, cJ, cw, b8, hB⟩ ?_
   intro X3
   refine prE fun i3_94 => fun k3_95 => ?_
   intro H hX3 σ w93
   refine andE fun hag => andE fun hO => andE fun b5 => andE fun bO => andE fun bM => andE fun b9 => andE fun bB => andE fun bX => andE fun cJ => andE fun cw => andE fun b8 => fun hB => ?_
   dsimp only at H
   refine Go1.keep [(0, .pointer (some ⟨dO, 0, none⟩)), (1, .int .i64 i3_94), (2, .string (gstr w_)), (15, .int .i64 (w_.length : Int)), (16, .int .i64 (k3_95 : Int))] hag ?_
   refine Go1.seq ?_
   refine Go1.region ?_
   by_cases h96 : (k3_95 : Int) < (w_.length : Int)
   ·replace H := ifp h96 H
    refine GoR.op ((fun w => opB (op_lss rfl rfl w) (decide_eq_true h96)) _) rfl rfl ?_
    refine GoR.nil ?_
    refine Go1.seq ?_
    refine Go1.condT rfl rfl ?_
    refine Go1.skip ?_
    refine Go1.seq ?_
    refine Go1.block ?_
    refine Go1.seq ?_
    refine Go1.region ?_
    refine GoR.op ((op_move rfl) _) rfl rfl ?_
    refine GoR.op ((op_assign rfl) _) rfl rfl ?_
    refine GoR.nil ?_
    refine Go1.region ?_
    refine GoR.op ((op_move rfl) _) rfl rfl ?_
    refine GoR.op ((op_move rfl) _) rfl rfl ?_
    refine GoR.op ((op_move rfl) _) rfl rfl ?_
    refine GoR.op ((op_move rfl) _) rfl rfl ?_
    obtain ⟨h97, H⟩ := H
    obtain ⟨h98, H⟩ := H
    refine GoR.op ((op_indexS Try.underlying9 rfl rfl h97 h98) _) rfl rfl ?_
    refine GoR.op ((op_sub rfl rfl rfl) _) rfl rfl ?_
    refine GoR.op ((op_conv Try.underlying5 Try.underlying3 rfl rfl) _) rfl rfl ?_
    refine GoR.inl (vs := [.pointer (some ⟨dO, 0, none⟩), .int .i64 i3_94, .int .i64 (IntKind.i64.wrap (IntKind.u8.wrap (((ix w_ (k3_95 : Int)).toNat : Int) - (97 : Int))))]) (caps := []) rfl rfl body66 Try.func66 rfl Try.ntmps66 rfl rfl rfl ?_
    intro RhR99 hR99
    refine Go1.seq ?_
    refine Go1.region ?_
    refine GoR.op ((op_assign rfl) _) rfl rfl ?_
    refine GoR.nil ?_
    refine Go1.seq ?_
    refine Go1.seq ?_
    refine Go1.region ?_
    refine GoR.op ((op_move rfl) _) rfl rfl ?_
    by_cases uP : i3_94 = (-1 : Int)
    ·replace H := ifp uP H
     refine GoR.op ((fun w => opB (op_eql rfl rfl w) (decide_eq_true uP)) _) rfl rfl ?_
     refine GoR.nil ?_
     refine Go1.condT rfl rfl ?_
     refine Go1.seq ?_
     refine Go1.region ?_
     refine GoR.op ((op_move rfl) _) rfl rfl ?_
     refine GoR.op ((op_nilCheck rfl) _) rfl rfl ?_
     refine GoR.op ((op_fieldAddr Try.underlying72 rfl ti26 rfl (by decide)) _) rfl rfl ?_
     refine GoR.op ((oblk (i := 12) 0 hO rfl rfl Try.underlying26 rfl rfl) _ (Same.refl _)) rfl rfl ?_
     refine GoR.op ((op_move rfl) _) rfl rfl ?_
     obtain ⟨vT, H⟩ := H
     obtain ⟨uW, H⟩ := H
     refine GoR.op ((op_index Try.underlying26 ti3 rfl rfl vT (ltn (b8.neq hO 9 rfl) uW) (b8.psome hO 9 rfl vT uW)) _) rfl rfl ?_
     refine GoR.op ((oldInt 9 hO rfl b8 vT uW Try.underlying3 rfl rfl) _ (Same.refl _)) rfl rfl ?_
     refine GoR.op ((op_assign rfl) _) rfl rfl ?_
     refine GoR.nil ?_
     refine Go1.ret1V Try.func66 rfl (show _ = .int .i64 (ix r14.single (IntKind.i64.wrap (IntKind.u8.wrap (((ix w_ (k3_95 : Int)).toNat : Int) - (97 : Int))))) from rfl) ?_
     refine hR99 _ _ ?_
     refine GoR.op ((op_assign rfl) _) rfl rfl ?_
     refine GoR.nil ?_
     refine Go1.inBlock ?_
     refine Go1.cut [(0, .pointer (some ⟨dO, 0, none⟩)), (1, .int .i64 (ix r14.single (IntKind.i64.wrap (IntKind.u8.wrap (((ix w_ (k3_95 : Int)).toNat : Int) - (97 : Int)))))), (2, .string (gstr w_)), (15, .int .i64 (w_.length : Int)), (16, .int .i64 (k3_95 : Int))] ⟨rfl, rfl, rfl, rfl, rfl, trivial⟩ ?_
     intro σ _
     refine Go1.region ?_
     refine GoR.op ((op_add rfl rfl (wrap_i64 (natbd h96 nt))) _) rfl rfl ?_
     refine GoR.op ((op_move rfl) _) rfl rfl ?_
     refine GoR.nil ?_
     exact hX3 _ H _ _ ⟨⟨rfl, rfl, rfl, rfl, rfl, trivial⟩, hO, b5, bO, bM, b9, bB, bX, cJ, cw, b8, hB⟩
    replace H := ifn uP H
    refine GoR.op ((fun w => opB (op_eql rfl rfl w) (decide_eq_false uP)) _) rfl rfl ?_
    refine GoR.nil ?_
    refine Go1.condF rfl rfl ?_
    refine Go1.skip ?_
    refine Go1.seq ?_
    refine Go1.region ?_
    refine GoR.op ((op_move rfl) _) rfl rfl ?_
    refine GoR.op ((op_nilCheck rfl) _) rfl rfl ?_
    refine GoR.op ((op_fieldAddr Try.underlying72 rfl ti29 rfl (by decide)) _) rfl rfl ?_
    refine GoR.op ((op_fieldAddr Try.underlying29 rfl ti22 rfl (by decide)) _) rfl rfl ?_
    refine GoR.op ((oblk (i := 6) 0 hO rfl rfl Try.underlying22 rfl rfl) _ (Same.refl _)) rfl rfl ?_
    refine GoR.op ((op_move rfl) _) rfl rfl ?_
    obtain ⟨uX, H⟩ := H
    obtain ⟨uQ, H⟩ := H
    refine GoR.op ((op_index Try.underlying22 ti26 rfl rfl uX (ltn (bB.neq hO 5 rfl) uQ) (bB.psome hO 5 rfl uX uQ)) _) rfl rfl ?_
    have hobt := oldSl 5 hO rfl bB uX uQ
    obtain ⟨MY, MZ, AR, Gy⟩ := hobt
    refine GoR.op ((Gy Try.underlying26 rfl rfl) _ (Same.refl _)) rfl rfl ?_
    refine GoR.op ((op_move rfl) _) rfl rfl ?_
    obtain ⟨uR, H⟩ := H
    obtain ⟨vU, H⟩ := H
    refine GoR.op ((op_index Try.underlying26 ti3 rfl rfl uR vU (AR.some_ uR vU)) _) rfl rfl ?_
    refine GoR.op ((ldInt AR uR vU Try.underlying3 rfl rfl) _ (Same.refl _)) rfl rfl ?_
    refine GoR.op ((op_assign rfl) _) rfl rfl ?_
    refine GoR.nil ?_
    refine Go1.ret1V Try.func66 rfl (show _ = .int .i64 (ix (ix r14.Enum.Right i3_94) (IntKind.i64.wrap (IntKind.u8.wrap (((ix w_ (k3_95 : Int)).toNat : Int) - (97 : Int))))) from rfl) ?_
    refine hR99 _ _ ?_
    refine GoR.op ((op_assign rfl) _) rfl rfl ?_
    refine GoR.nil ?_
    refine Go1.inBlock ?_
    refine Go1.region ?_
    refine GoR.op ((op_add rfl rfl (wrap_i64 (natbd h96 nt))) _) rfl rfl ?_
    refine GoR.op ((op_move rfl) _) rfl rfl ?_
    refine GoR.nil ?_
    exact hX3 _ H _ _ ⟨⟨rfl, rfl, rfl, rfl, rfl, trivial⟩, hO, b5, bO, bM, b9, bB, bX, cJ, cw, b8, hB⟩
   replace H := ifn h96 H
   refine GoR.op ((fun w => opB (op_lss rfl rfl w) (decide_eq_false h96)) _) rfl rfl ?_
   refine GoR.nil ?_
   refine Go1.seq ?_
   refine Go1.condF rfl rfl ?_
   refine Go1.exit rfl ?_
   refine Go1.seq ?_
   refine Go1.region ?_
   refine GoR.op ((op_move rfl) _) rfl rfl ?_
   refine GoR.op ((op_assign rfl) _) rfl rfl ?_
   refine GoR.nil ?_
   refine Go1.ret1V Try.func59 rfl (show _ = .int .i64 i3_94 from rfl) ?_
   refine hR73 _ _ ?_
   refine GoR.op ((op_assign rfl) _) rfl rfl ?_
   refine GoR.nil ?_
   refine Go1.ret1 Try.func30 rfl ?_
   exact ⟨i3_94, rfl, hB.same, H⟩
  replace H := ifn h44 H
  refine GoQ.pure rfl (fun w => opB (op_eql rfl rfl w) (decide_eq_false h44)) rfl rfl ?_
  refine GoQ.pure rfl (op_assign rfl) rfl rfl ?_
  refine GoQ.nil ?_
  refine Go1.ret1V Try.func50 rfl (show _ = .bool false from rfl) ?_
  refine hR40 _ _ ?_
  refine GoR.op ((op_pickT rfl rfl rfl) _) rfl rfl ?_
  refine GoR.op ((op_assign rfl) _) rfl rfl ?_
  refine GoR.op ((op_assign rfl) _) rfl rfl ?_
  refine GoR.nil ?_
  refine Go1.ret2V Try.func57 rfl (show _ = .pointer (some ⟨dO, 0, none⟩) from rfl) (show _ = .bool false from rfl) ?_
  refine hR7 _ _ ?_
  refine GoR.op ((op_move rfl) _) rfl rfl ?_
  refine GoR.op ((op_extract rfl rfl) _) rfl rfl ?_
  refine GoR.op ((op_extract rfl rfl) _) rfl rfl ?_
  refine GoR.op ((op_assign rfl) _) rfl rfl ?_
  refine GoR.op ((op_assign rfl) _) rfl rfl ?_
  refine GoR.nil ?_
  refine Go1.seq ?_
  refine Go1.seq ?_
  refine Go1.cut [(1, .string (gstr w_)), (5, .pointer (some ⟨dO, 0, none⟩)), (6, .bool false)] ⟨rfl, rfl, rfl, trivial⟩ ?_
  intro σ _
  refine Go1.region ?_
  refine GoR.op ((op_move rfl) _) rfl rfl ?_
  refine GoR.op ((op_not rfl) _) rfl rfl ?_
  refine GoR.op ((op_move rfl) _) rfl rfl ?_
  refine GoR.pass rfl rfl ?_
  refine GoR.pass rfl rfl ?_
  refine GoR.pass rfl rfl ?_
  refine GoR.pass rfl rfl ?_
  refine GoR.pass rfl rfl ?_
  refine GoR.pass rfl rfl ?_
  refine GoR.pass rfl rfl ?_
  refine GoR.pass rfl rfl ?_
  refine GoR.pass rfl rfl ?_
  refine GoR.op ((op_pickT rfl rfl rfl) _) rfl rfl ?_
  refine GoR.op ((op_move rfl) _) rfl rfl ?_
  refine GoR.pass rfl rfl ?_
  refine GoR.pass rfl rfl ?_
  refine GoR.pass rfl rfl ?_
  refine GoR.pass rfl rfl ?_
  refine GoR.pass rfl rfl ?_
  refine GoR.pass rfl rfl ?_
  refine GoR.pass rfl rfl ?_
  refine GoR.pass rfl rfl ?_
  refine GoR.pass rfl rfl ?_
  refine GoR.pass rfl rfl ?_
  refine GoR.op ((op_pickT rfl rfl rfl) _) rfl rfl ?_
  refine GoR.nil ?_
  refine Go1.condT rfl rfl ?_
  refine Go1.seq ?_
  refine Go1.cut [] trivial ?_
  intro σ _
  refine Go1.region ?_
  refine GoR.op ((op_assign rfl) _) rfl rfl ?_
  refine GoR.nil ?_
  refine Go1.ret1 Try.func30 rfl ?_
  exact ⟨(-1 : Int), rfl, hB.same, H⟩
theorem walk_law12_EnumerateCovers {A : List Nat} {w0 : World} {se : Option Addr} {sf : Nat} {a0 : List (List Int)} {a1 : Bool} {a2 : Str} (hA : ∀ b ∈ A, b < w0.heap.size) (b7 : ISl (Rp.sl (Rp.int .i64)) A w0 se sf a0) (tY : a2.length ≤ mx) {K : Bool → Prop} (H : law12_EnumerateCovers a0 a1 a2 K) :
    CallsV Try.prog 7 #[.slice se a0.length sf, .bool a1, .string (gstr a2)] w0 (fun v w' => ∃ (r0 : Bool), v = .bool r0 ∧ Same w0 w' ∧ K r0) := by
 refine CallsV.of (l := [.slice se a0.length sf, .bool a1, .string (gstr a2)]) Try.func7 rfl Try.ntmps7 rfl ?_
 have hO := Owns.start hA
 have hB := Fr.refl (bl []) w0
 unfold law12_EnumerateCovers at H
 replace b7 := b7.ch (Ch.start A w0)
 refine Go1.seq ?_
 refine Go1.region ?_
 refine GoR.op ((op_assign rfl) _) rfl rfl ?_
 refine GoR.nil ?_
 refine Go1.seq ?_
 refine Go1.seq ?_
 refine Go1.region ?_
 refine GoR.op ((op_move rfl) _) rfl rfl ?_
 refine GoR.call (op_call body15 rfl (walk_law12_little hO.lt b7 H)) rfl rfl ?_
 rintro v5 w2 ⟨r1, rfl, hs3, H⟩
 have sd := Stp.same hO hs3
 replace hO := sd.own
 replace b7 := b7.ch sd.ch
 replace hB := hB.trans sd.fr
 cases r1
 ·replace H := ifn Bool.false_ne_true H
  refine GoR.op ((op_not rfl) _) rfl rfl ?_
  refine GoR.op ((op_move rfl) _) rfl rfl ?_
  refine GoR.pass rfl rfl ?_
  refine GoR.pass rfl rfl ?_
  refine GoR.pass rfl rfl ?_
  refine GoR.pass rfl rfl ?_
  refine GoR.pass rfl rfl ?_
  refine GoR.pass rfl rfl ?_
  refine GoR.op ((op_pickT rfl rfl rfl) _) rfl rfl ?_
  refine GoR.op ((op_move rfl) _) rfl rfl ?_
  refine GoR.pass rfl rfl ?_
  refine GoR.pass rfl rfl ?_
  refine GoR.op ((op_pickT rfl rfl rfl) _) rfl rfl ?_
  refine GoR.op ((op_move rfl) _) rfl rfl ?_
  refine GoR.pass rfl rfl ?_
  refine GoR.pass rfl rfl ?_
  refine GoR.pass rfl rfl ?_
  refine GoR.op ((op_pickT rfl rfl rfl) _) rfl rfl ?_
  refine GoR.nil ?_
  refine Go1.condT rfl rfl ?_
  refine Go1.seq ?_
  refine Go1.cut [] trivial ?_
  intro σ _
  refine Go1.region ?_
  refine GoR.call (op_call body16 rfl (walk_law12_awake hO.lt H)) rfl rfl ?_
  rintro v11 w8 ⟨r7, rfl, hs9, H⟩
  have zm := Stp.same hO hs9
  replace hO := zm.own
  replace b7 := b7.ch zm.ch
  replace hB := hB.trans zm.fr
  refine GoR.op ((op_assign rfl) _) rfl rfl ?_
  refine GoR.nil ?_
  refine Go1.ret1 Try.func7 rfl ?_
  exact ⟨r7, rfl, hB.same, H⟩
 replace H := ifp rfl H
 refine GoR.op ((op_not rfl) _) rfl rfl ?_
 refine GoR.op ((op_move rfl) _) rfl rfl ?_
 refine GoR.op ((op_move rfl) _) rfl rfl ?_
 refine GoR.op ((op_move rfl) _) rfl rfl ?_
 refine GoR.op ((op_len Try.underlying22 rfl) _) rfl rfl ?_
 replace H := H b7.bd
 by_cases h13 : (1 : Int) < (a0.length : Int)
 ·replace H := ifp h13 H
  refine GoR.op ((op_maxT rfl rfl h13) _) rfl rfl ?_
  refine GoR.call (op_call body27 rfl (walk_ref01_Valid hO.lt tY H)) rfl rfl ?_
  rintro v18 w15 ⟨r14, rfl, IA, H⟩
  have zn := Stp.same hO IA
  replace hO := zn.own
  replace b7 := b7.ch zn.ch
  replace hB := hB.trans zn.fr
  cases r14
  ·replace H := ifn Bool.false_ne_true H
   refine GoR.op ((op_not rfl) _) rfl rfl ?_
   refine GoR.op ((op_pickF rfl rfl rfl) _) rfl rfl ?_
   refine GoR.op ((op_move rfl) _) rfl rfl ?_
   refine GoR.pass rfl rfl ?_
   refine GoR.pass rfl rfl ?_
   refine GoR.op ((op_pickT rfl rfl rfl) _) rfl rfl ?_
   refine GoR.op ((op_move rfl) _) rfl rfl ?_
   refine GoR.pass rfl rfl ?_
   refine GoR.pass rfl rfl ?_
   refine GoR.pass rfl rfl ?_
   refine GoR.op ((op_pickT rfl rfl rfl) _) rfl rfl ?_
   refine GoR.nil ?_
   refine Go1.condT rfl rfl ?_
   refine Go1.seq ?_
   refine Go1.cut [] trivial ?_
   intro σ _
   refine Go1.region ?_
   refine GoR.call (op_call body16 rfl (walk_law12_awake hO.lt H)) rfl rfl ?_
   rintro v24 w21 ⟨r20, rfl, IB, H⟩
   have tC := Stp.same hO IB
   replace hO := tC.own
   replace b7 := b7.ch tC.ch
   replace hB := hB.trans tC.fr
   refine GoR.op ((op_assign rfl) _) rfl rfl ?_
   refine GoR.nil ?_
   refine Go1.ret1 Try.func7 rfl ?_
   exact ⟨r20, rfl, hB.same, H⟩
  replace H := ifp rfl H
  refine GoR.op ((op_not rfl) _) rfl rfl ?_
  refine GoR.op ((op_pickF rfl rfl rfl) _) rfl rfl ?_
  refine GoR.op ((op_move rfl) _) rfl rfl ?_
  refine GoR.op ((op_move rfl) _) rfl rfl ?_
  by_cases h26 : a2 = (([] : Str))
  ·replace H := ifp h26 H
   refine GoR.op ((fun w => opB (op_eqlS rfl rfl w) (decide_eq_true h26)) _) rfl rfl ?_
   refine GoR.op ((op_pickF rfl rfl rfl) _) rfl rfl ?_
   refine GoR.op ((op_move rfl) _) rfl rfl ?_
   refine GoR.pass rfl rfl ?_
   refine GoR.pass rfl rfl ?_
   refine GoR.pass rfl rfl ?_
   refine GoR.op ((op_pickT rfl rfl rfl) _) rfl rfl ?_
   refine GoR.nil ?_
   refine Go1.condT rfl rfl ?_
   refine Go1.seq ?_
   refine Go1.region ?_
   refine GoR.call (op_call body16 rfl (walk_law12_awake hO.lt H)) rfl rfl ?_
   rintro v31 w28 ⟨r27, rfl, IC, H⟩
   have zo := Stp.same hO IC
   replace hO := zo.own
   replace b7 := b7.ch zo.ch
   replace hB := hB.trans zo.fr
   refine GoR.op ((op_assign rfl) _) rfl rfl ?_
   refine GoR.nil ?_
   refine Go1.ret1 Try.func7 rfl ?_
   exact ⟨r27, rfl, hB.same, H⟩
  replace H := ifn h26 H
  refine GoR.op ((fun w => opB (op_eqlS rfl rfl w) (decide_eq_false h26)) _) rfl rfl ?_
  refine GoR.op ((op_pickF rfl rfl rfl) _) rfl rfl ?_
  refine GoR.op ((op_move rfl) _) rfl rfl ?_
  refine GoR.op ((op_move rfl) _) rfl rfl ?_
  refine GoR.op ((op_lenS Try.underlying9 rfl) _) rfl rfl ?_
  replace H := H tY
  by_cases h33 : (40 : Int) < (a2.length : Int)
  ·replace H := ifp h33 H
   refine GoR.op ((fun w => opB (op_gtr rfl rfl w) (decide_eq_true h33)) _) rfl rfl ?_
   refine GoR.op ((op_pickF rfl rfl rfl) _) rfl rfl ?_
   refine GoR.nil ?_
   refine Go1.condT rfl rfl ?_
   refine Go1.seq ?_
   refine Go1.cut [] trivial ?_
   intro σ _
   refine Go1.region ?_
   refine GoR.call (op_call body16 rfl (walk_law12_awake hO.lt H)) rfl rfl ?_
   rintro v38 w35 ⟨r34, rfl, ID, H⟩
   have zp := Stp.same hO ID
   replace hO := zp.own
   replace b7 := b7.ch zp.ch
   replace hB := hB.trans zp.fr
   refine GoR.op ((op_assign rfl) _) rfl rfl ?_
   refine GoR.nil ?_
   refine Go1.ret1 Try.func7 rfl ?_
   exact ⟨r34, rfl, hB.same, H⟩
  replace H := ifn h33 H
  refine GoR.op ((fun w => opB (op_gtr rfl rfl w) (decide_eq_false h33)) _) rfl rfl ?_
  refine GoR.op ((op_pickF rfl rfl rfl) _) rfl rfl ?_
  refine GoR.nil ?_
  refine Go1.condF rfl rfl ?_
  refine Go1.skip ?_
  refine Go1.seq ?_
  refine Go1.region ?_
  refine GoR.op ((op_move rfl) _) rfl rfl ?_
  refine GoR.op ((op_move rfl) _) rfl rfl ?_
  refine GoR.call (op_call body17 rfl (walk_enumerate_Build hO.lt b7 H)) rfl rfl ?_
  rintro v45 w42 ⟨r40, r41, jd, je, iG, iH, gL, gM, jf, jg, iI, iJ, fM, fN, rfl, IE, dF, dl, c5, dG, dm, cK, H⟩
  have zq := Stp.same hO IE
  replace hO := zq.own
  replace b7 := b7.ch zq.ch
  replace hB := hB.trans zq.fr
  refine GoR.op ((op_move rfl) _) rfl rfl ?_
  refine GoR.op ((op_extract rfl rfl) _) rfl rfl ?_
  refine GoR.op ((op_extract rfl rfl) _) rfl rfl ?_
  have hobt := oalloc (t := 29) (cs := #[.int .i64 (0 : Int), .bool false, .slice none 0 0, .slice none 0 0, .slice none 0 0, .slice none 0 0, .slice none 0 0, .slice none 0 0, .int .i64 (0 : Int)]) ti29 hO rfl
  obtain ⟨w47, B48, tk, M0, Gz⟩ := hobt
  refine GoR.op Gz rfl rfl ?_
  replace hO := tk.own
  replace b7 := b7.ch tk.ch
  replace dF := dF.ch tk.ch
  replace dl := dl.ch tk.ch
  replace c5 := c5.ch tk.ch
  replace dG := dG.ch tk.ch
  replace dm := dm.ch tk.ch
  replace cK := cK.ch tk.ch
  replace hB := hB.trans tk.fr
  have hobt := oblkStAgg (us := [.int .i64 r40.Points, .bool r40.Monoid, .slice jd r40.Gens.length je, .slice iG r40.Elems.length iH, .slice gL r40.Prefix.length gM, .slice jf r40.Last.length jg, .slice iI r40.Right.length iJ, .slice fM r40.Rules.length fN, .int .i64 r40.Done]) (o := 0) (cs' := #[.int .i64 r40.Points, .bool r40.Monoid, .slice jd r40.Gens.length je, .slice iG r40.Elems.length iH, .slice gL r40.Prefix.length gM, .slice jf r40.Last.length jg, .slice iI r40.Right.length iJ, .slice fM r40.Rules.length fN, .int .i64 r40.Done]) 0 hO rfl rfl (Nat.le_of_ble_eq_true rfl) rfl
  obtain ⟨w53, oH, GA⟩ := hobt
  refine GoR.op (GA ti29 (by exact rfl) (by exact rfl) rfl) rfl rfl ?_
  replace hO := oH.own
  replace b7 := b7.ch oH.ch
  replace dF := dF.ch oH.ch
  replace dl := dl.ch oH.ch
  replace c5 := c5.ch oH.ch
  replace dG := dG.ch oH.ch
  replace dm := dm.ch oH.ch
  replace cK := cK.ch oH.ch
  replace hB := hB.trans oH.fr
  refine GoR.op ((op_assign rfl) _) rfl rfl ?_
  refine GoR.nil ?_
  refine Go1.seq ?_
  refine Go1.seq ?_
  refine Go1.region ?_
  refine GoR.op ((op_move rfl) _) rfl rfl ?_
  by_cases h56 : r41 = (0 : Int)
  ·replace H := ifp h56 H
   refine GoR.op ((fun w => opB (op_neq rfl rfl w) (ndT h56)) _) rfl rfl ?_
   refine GoR.nil ?_
   refine Go1.condF rfl rfl ?_
   refine Go1.skip ?_
   refine Go1.seq ?_
   refine Go1.region ?_
   refine GoR.op ((op_assign rfl) _) rfl rfl ?_
   refine GoR.nil ?_
   refine Go1.seq ?_
   refine Go1.seq ?_
   refine Go1.region ?_
   refine GoR.op ((op_fieldAddr Try.underlying29 rfl ti27 rfl (by decide)) _) rfl rfl ?_
   refine GoR.op ((oblk (i := 7) 0 hO rfl rfl Try.underlying27 rfl rfl) _ (Same.refl _)) rfl rfl ?_
   refine GoR.op ((op_len Try.underlying27 rfl) _) rfl rfl ?_
   replace H := H cK.bd
   refine GoR.op ((op_move rfl) _) rfl rfl ?_
   refine GoR.nil ?_
   refine Go1.block ?_
   refine Go1.loopW (S := Bool × Nat) (fun s σ w => match s with | (b1_58, k1_59) => agrees σ [(2, .string (gstr a2)), (7, .pointer (some ⟨B48, 0, none⟩)), (9, .bool b1_58), (42, .slice fM r40.Rules.length fN), (43, .int .i64 (r40.Rules.length : Int)), (44, .int .i64 (k1_59 : Int))] ∧ Owns w0.heap.size w [.blk B48 (.cells #[.int .i64 r40.Points, .bool r40.Monoid, .slice jd r40.Gens.length je, .slice iG r40.Elems.length iH, .slice gL r40.Prefix.length gM, .slice jf r40.Last.length jg, .slice iI r40.Right.length iJ, .slice fM r40.Rules.length fN, .int .i64 r40.Done] 29 (0, 0))] A ∧ ISl (Rp.sl (Rp.int .i64)) (bl [.blk B48 (.cells #[.int .i64 r40.Points, .bool r40.Monoid, .slice jd r40.Gens.length je, .slice iG r40.Elems.length iH, .slice gL r40.Prefix.length gM, .slice jf r40.Last.length jg, .slice iI r40.Right.length iJ, .slice fM r40.Rules.length fN, .int .i64 r40.Done] 29 (0, 0))] ++ A) w jd je r40.Gens ∧ ISl (Rp.sl (Rp.int .i64)) (bl [.blk B48 (.cells #[.int .i64 r40.Points, .bool r40.Monoid, .slice jd r40.Gens.length je, .slice iG r40.Elems.length iH, .slice gL r40.Prefix.length gM, .slice jf r40.Last.length jg, .slice iI r40.Right.length iJ, .slice fM r40.Rules.length fN, .int .i64 r40.Done] 29 (0, 0))] ++ A) w iG iH r40.Elems ∧ ISl (Rp.int .i64) (bl [.blk B48 (.cells #[.int .i64 r40.Points, .bool r40.Monoid, .slice jd r40.Gens.length je, .slice iG r40.Elems.length iH, .slice gL r40.Prefix.length gM, .slice jf r40.Last.length jg, .slice iI r40.Right.length iJ, .slice fM r40.Rules.length fN, .int .i64 r40.Done] 29 (0, 0))] ++ A) w gL gM r40.Prefix ∧ ISl (Rp.int .i64) (bl [.blk B48 (.cells #[.int .i64 r40.Points, .bool r40.Monoid, .slice jd r40.Gens.length je, .slice iG r40.Elems.length iH, .slice gL r40.Prefix.length gM, .slice jf r40.Last.length jg, .slice iI r40.Right.length iJ, .slice fM r40.Rules.length fN, .int .i64 r40.Done] 29 (0, 0))] ++ A) w jf jg r40.Last ∧ ISl (Rp.sl (Rp.int .i64)) (bl [.blk B48 (.cells #[.int .i64 r40.Points, .bool r40.Monoid, .slice jd r40.Gens.length je, .slice iG r40.Elems.length iH, .slice gL r40.Prefix.length gM, .slice jf r40.Last.length jg, .slice iI r40.Right.length iJ, .slice fM r40.Rules.length fN, .int .i64 r40.Done] 29 (0, 0))] ++ A) w iI iJ r40.Right ∧ ISl (rpRule) (bl [.blk B48 (.cells #[.int .i64 r40.Points, .bool r40.Monoid, .slice jd r40.Gens.length je, .slice iG r40.Elems.length iH, .slice gL r40.Prefix.length gM, .slice jf r40.Last.length jg, .slice iI r40.Right.length iJ, .slice fM r40.Rules.length fN, .int .i64 r40.Done] 29 (0, 0))] ++ A) w fM fN r40.Rules ∧ Fr (bl []) w0 (bl [.blk B48 (.cells #[.int .i64 r40.Points, .bool r40.Monoid, .slice jd r40.Gens.length je, .slice iG r40.Elems.length iH, .slice gL r40.Prefix.length gM, .slice jf r40.Last.length jg, .slice iI r40.Right.length iJ, .slice fM r40.Rules.length fN, .int .i64 r40.Done] 29 (0, 0))]) w) H ⟨⟨rfl, rfl, rfl, rfl, rfl, rfl, trivial⟩, hO, dF, dl, c5, dG, dm, cK, hB⟩ ?_
   intro X1
   refine prE fun b1_58 => fun k1_59 => ?_
   intro H hX1 σ w57
   refine andE fun hag => andE fun hO => andE fun dF => andE fun dl => andE fun c5 => andE fun dG => andE fun dm => andE fun cK => fun hB => ?_
   dsimp only at H
   refine Go1.keep [(2, .string (gstr a2)), (7, .pointer (some ⟨B48, 0, none⟩)), (9, .bool b1_58), (42, .slice fM r40.Rules.length fN), (43, .int .i64 (r40.Rules.length : Int)), (44, .int .i64 (k1_59 : Int))] hag ?_
   refine Go1.seq ?_
   refine Go1.region ?_
   by_cases h60 : (k1_59 : Int) < (r40.Rules.length : Int)
   ·replace H := ifp h60 H
    refine GoR.op ((fun w => opB (op_lss rfl rfl w) (decide_eq_true h60)) _) rfl rfl ?_
    refine GoR.nil ?_
    refine Go1.seq ?_
    refine Go1.condT rfl rfl ?_
    refine Go1.skip ?_
    refine Go1.seq ?_
    refine Go1.block ?_
    refine Go1.seq ?_
    refine Go1.region ?_
    obtain ⟨h61, H⟩ := H
    obtain ⟨h62, H⟩ := H
    refine GoR.op ((op_index Try.underlying27 ti39 rfl rfl h61 h62 (cK.some_ h61 h62)) _) rfl rfl ?_
    have hok63 := ldFlatOk cK h61 h62
    refine GoR.op ((ldFlat cK h61 h62 Try.underlying39 rfl ti39 rfl) _ (Same.refl _)) rfl rfl ?_
    have hobt := oalloc (t := 39) (cs := #[.string (gstr (([] : Str))), .string (gstr (([] : Str)))]) ti39 hO rfl
    obtain ⟨w64, B65, tZ, M1, GB⟩ := hobt
    refine GoR.op GB rfl rfl ?_
    replace hO := tZ.own
    replace dF := dF.ch tZ.ch
    replace dl := dl.ch tZ.ch
    replace c5 := c5.ch tZ.ch
    replace dG := dG.ch tZ.ch
    replace dm := dm.ch tZ.ch
    replace cK := cK.ch tZ.ch
    replace hB := hB.trans tZ.fr
    have hobt := oblkStAgg (us := [.string (gstr ((ix r40.Rules (k1_59 : Int)).Left)), .string (gstr ((ix r40.Rules (k1_59 : Int)).Right))]) (o := 0) (cs' := #[.string (gstr ((ix r40.Rules (k1_59 : Int)).Left)), .string (gstr ((ix r40.Rules (k1_59 : Int)).Right))]) 0 hO rfl rfl (Nat.le_of_ble_eq_true rfl) rfl
    obtain ⟨w70, kx, GC⟩ := hobt
    refine GoR.op (GC ti39 (by exact rfl) (by exact rfl) rfl) rfl rfl ?_
    replace hO := kx.own
    replace dF := dF.ch kx.ch
    replace dl := dl.ch kx.ch
    replace c5 := c5.ch kx.ch
    replace dG := dG.ch kx.ch
    replace dm := dm.ch kx.ch
    replace cK := cK.ch kx.ch
    replace hB := hB.trans kx.fr
    refine GoR.nil ?_
    refine Go1.region ?_
    refine GoR.op ((op_move rfl) _) rfl rfl ?_
    refine GoR.op ((op_move rfl) _) rfl rfl ?_
    cases b1_58
    ·replace H := ifn Bool.false_ne_true H
     refine GoR.pass rfl rfl ?_
     refine GoR.pass rfl rfl ?_
     refine GoR.pass rfl rfl ?_
     refine GoR.pass rfl rfl ?_
     refine GoR.pass rfl rfl ?_
     refine GoR.op ((op_pickF rfl rfl rfl) _) rfl rfl ?_
     refine GoR.op ((op_assign rfl) _) rfl rfl ?_
     refine GoR.nil ?_
     refine Go1.inBlock ?_
     refine Go1.region ?_
     refine GoR.op ((op_add rfl rfl (wrap_i64 (natbd h60 cK.bd))) _) rfl rfl ?_
     refine GoR.op ((op_move rfl) _) rfl rfl ?_
     refine GoR.nil ?_
     replace dF := dF.ch (Owns.dropCh _ _ 0)
     replace dl := dl.ch (Owns.dropCh _ _ 0)
     replace c5 := c5.ch (Owns.dropCh _ _ 0)
     replace dG := dG.ch (Owns.dropCh _ _ 0)
     replace dm := dm.ch (Owns.dropCh _ _ 0)
     replace cK := cK.ch (Owns.dropCh _ _ 0)
     replace hB := hB.trans (Owns.dropFr _ _ 0)
     replace hO := hO.drop 0
     exact hX1 _ H _ _ ⟨⟨rfl, rfl, rfl, rfl, rfl, rfl, trivial⟩, hO, dF, dl, c5, dG, dm, cK, hB⟩
    replace H := ifp rfl H
    refine GoR.op ((op_fieldAddr Try.underlying39 rfl ti9 rfl (by decide)) _) rfl rfl ?_
    refine GoR.op ((oblk (i := 0) 0 hO rfl rfl Try.underlying9 rfl rfl) _ (Same.refl _)) rfl rfl ?_
    refine GoR.op ((op_move rfl) _) rfl rfl ?_
    refine GoR.call (op_call body28 rfl (walk_ref01_IsFactor hO.lt hok63.1 tY H)) rfl rfl ?_
    rintro v77 w74 ⟨r73, rfl, IF, H⟩
    have t0 := Stp.same hO IF
    replace hO := t0.own
    replace dF := dF.ch t0.ch
    replace dl := dl.ch t0.ch
    replace c5 := c5.ch t0.ch
    replace dG := dG.ch t0.ch
    replace dm := dm.ch t0.ch
    replace cK := cK.ch t0.ch
    replace hB := hB.trans t0.fr
    cases r73
    ·replace H := ifn Bool.false_ne_true H
     refine GoR.op ((op_not rfl) _) rfl rfl ?_
     refine GoR.op ((op_pickT rfl rfl rfl) _) rfl rfl ?_
     refine GoR.op ((op_assign rfl) _) rfl rfl ?_
     refine GoR.nil ?_
     refine Go1.inBlock ?_
     refine Go1.cut [(2, .string (gstr a2)), (7, .pointer (some ⟨B48, 0, none⟩)), (9, .bool true), (42, .slice fM r40.Rules.length fN), (43, .int .i64 (r40.Rules.length : Int)), (44, .int .i64 (k1_59 : Int))] ⟨rfl, rfl, rfl, rfl, rfl, rfl, trivial⟩ ?_
     intro σ _
     refine Go1.region ?_
     refine GoR.op ((op_add rfl rfl (wrap_i64 (natbd h60 cK.bd))) _) rfl rfl ?_
     refine GoR.op ((op_move rfl) _) rfl rfl ?_
     refine GoR.nil ?_
     replace dF := dF.ch (Owns.dropCh _ _ 0)
     replace dl := dl.ch (Owns.dropCh _ _ 0)
     replace c5 := c5.ch (Owns.dropCh _ _ 0)
     replace dG := dG.ch (Owns.dropCh _ _ 0)
     replace dm := dm.ch (Owns.dropCh _ _ 0)
     replace cK := cK.ch (Owns.dropCh _ _ 0)
     replace hB := hB.trans (Owns.dropFr _ _ 0)
     replace hO := hO.drop 0
     exact hX1 _ H _ _ ⟨⟨rfl, rfl, rfl, rfl, rfl, rfl, trivial⟩, hO, dF, dl, c5, dG, dm, cK, hB⟩
    replace H := ifp rfl H
    refine GoR.op ((op_not rfl) _) rfl rfl ?_
    refine GoR.op ((op_pickT rfl rfl rfl) _) rfl rfl ?_
    refine GoR.op ((op_assign rfl) _) rfl rfl ?_
    refine GoR.nil ?_
    refine Go1.inBlock ?_
    refine Go1.region ?_
    refine GoR.op ((op_add rfl rfl (wrap_i64 (natbd h60 cK.bd))) _) rfl rfl ?_
    refine GoR.op ((op_move rfl) _) rfl rfl ?_
    refine GoR.nil ?_
    replace dF := dF.ch (Owns.dropCh _ _ 0)
    replace dl := dl.ch (Owns.dropCh _ _ 0)
    replace c5 := c5.ch (Owns.dropCh _ _ 0)
    replace dG := dG.ch (Owns.dropCh _ _ 0)
    replace dm := dm.ch (Owns.dropCh _ _ 0)
    replace cK := cK.ch (Owns.dropCh _ _ 0)
    replace hB := hB.trans (Owns.dropFr _ _ 0)
    replace hO := hO.drop 0
    exact hX1 _ H _ _ ⟨⟨rfl, rfl, rfl, rfl, rfl, rfl, trivial⟩, hO, dF, dl, c5, dG, dm, cK, hB⟩
   replace H := ifn h60 H
   refine GoR.op ((fun w => opB (op_lss rfl rfl w) (decide_eq_false h60)) _) rfl rfl ?_
   refine GoR.nil ?_
   refine Go1.seq ?_
   refine Go1.condF rfl rfl ?_
   refine Go1.exit rfl ?_
   refine Go1.seq ?_
   refine Go1.drawS 0 [(0, .stable), (1, .stable), (2, .pure), (5, .pure), (7, .pure), (3, .loud), (4, .loud), (6, .pure), (8, .pure), (9, .pure), (10, .loud), (11, .pure), (12, .pure)] mixed (by kernel_rfl) ?_
   intro w79 IG
   have oI := Stp.same hO IG
   replace hO := oI.own
   replace dF := dF.ch oI.ch
   replace dl := dl.ch oI.ch
   replace c5 := c5.ch oI.ch
   replace dG := dG.ch oI.ch
   replace dm := dm.ch oI.ch
   replace cK := cK.ch oI.ch
   replace hB := hB.trans oI.fr
   refine GoQ.stable rfl (oblkAgg (vs := [.int .i64 r40.Points, .bool r40.Monoid, .slice jd r40.Gens.length je, .slice iG r40.Elems.length iH, .slice gL r40.Prefix.length gM, .slice jf r40.Last.length jg, .slice iI r40.Right.length iJ, .slice fM r40.Rules.length fN, .int .i64 r40.Done]) (i := 0) 0 hO rfl rfl Try.underlying29 rfl ti29 rfl) rfl rfl ?_
   refine GoQ.stable rfl (oblkAgg (vs := [.int .i64 r40.Points, .bool r40.Monoid, .slice jd r40.Gens.length je, .slice iG r40.Elems.length iH, .slice gL r40.Prefix.length gM, .slice jf r40.Last.length jg, .slice iI r40.Right.length iJ, .slice fM r40.Rules.length fN, .int .i64 r40.Done]) (i := 0) 0 hO rfl rfl Try.underlying29 rfl ti29 rfl) rfl rfl ?_
   refine GoQ.pure rfl (op_move rfl) rfl rfl ?_
   refine GoQ.pure rfl (op_move rfl) rfl rfl ?_
   refine GoQ.pure rfl (op_move rfl) rfl rfl ?_
   refine GoQ.call rfl (op_call body30 rfl (walk_enumerate_OfWord (e := r40) hO.lt dF dl c5 dG dm cK tY H)) (fun v w hr => by obtain ⟨_, _, hs, _⟩ := hr; assumption) rfl rfl ?_
   rintro v86 w83 ⟨r82, rfl, IH, H⟩
   have t3 := Stp.same hO IH
   replace hO := t3.own
   replace dF := dF.ch t3.ch
   replace dl := dl.ch t3.ch
   replace c5 := c5.ch t3.ch
   replace dG := dG.ch t3.ch
   replace dm := dm.ch t3.ch
   replace cK := cK.ch t3.ch
   replace hB := hB.trans t3.fr
   refine GoQ.call rfl (op_call body29 rfl (walk_enumerate_Word (e := r40) hO.lt dF dl c5 dG dm cK H)) (fun v w hr => by obtain ⟨_, _, hs, _, _⟩ := hr; assumption) rfl rfl ?_
   rintro v92 w89 ⟨r88, rfl, II, IZ, H⟩
   have t4 := Stp.same hO II
   replace hO := t4.own
   replace dF := dF.ch t4.ch
   replace dl := dl.ch t4.ch
   replace c5 := c5.ch t4.ch
   replace dG := dG.ch t4.ch
   replace dm := dm.ch t4.ch
   replace cK := cK.ch t4.ch
   replace hB := hB.trans t4.fr
   by_cases h94 : r88 = a2
   ·replace H := ifp h94 H
    refine GoQ.pure rfl (fun w => opB (op_eqlS rfl rfl w) (decide_eq_true h94)) rfl rfl ?_
    cases b1_58
    ·replace H := ifn Bool.false_ne_true H
     refine GoQ.pure rfl (op_eqlB Try.underlying4 rfl rfl) rfl rfl ?_
     refine GoQ.pure rfl (op_move rfl) rfl rfl ?_
     refine GoQ.pass rfl rfl rfl ?_
     refine GoQ.pure rfl (op_pickF rfl rfl rfl) rfl rfl ?_
     refine GoQ.pure rfl (op_assign rfl) rfl rfl ?_
     refine GoQ.nil ?_
     refine Go1.ret1 Try.func7 rfl ?_
     exact ⟨false, rfl, hB.same, H⟩
    replace H := ifp rfl H
    refine GoQ.pure rfl (op_eqlB Try.underlying4 rfl rfl) rfl rfl ?_
    refine GoQ.pure rfl (op_move rfl) rfl rfl ?_
    refine GoQ.call rfl (op_call body16 rfl (walk_law12_awake hO.lt H)) (fun v w hr => by obtain ⟨_, _, hs, _⟩ := hr; assumption) rfl rfl ?_
    rintro v99 w96 ⟨r95, rfl, IJ, H⟩
    have sL := Stp.same hO IJ
    replace hO := sL.own
    replace dF := dF.ch sL.ch
    replace dl := dl.ch sL.ch
    replace c5 := c5.ch sL.ch
    replace dG := dG.ch sL.ch
    replace dm := dm.ch sL.ch
    replace cK := cK.ch sL.ch
    replace hB := hB.trans sL.fr
    refine GoQ.pure rfl (op_pickT rfl rfl rfl) rfl rfl ?_
    refine GoQ.pure rfl (op_assign rfl) rfl rfl ?_
    refine GoQ.nil ?_
    refine Go1.ret1 Try.func7 rfl ?_
    exact ⟨r95, rfl, hB.same, H⟩
   replace H := ifn h94 H
   refine GoQ.pure rfl (fun w => opB (op_eqlS rfl rfl w) (decide_eq_false h94)) rfl rfl ?_
   cases b1_58
   ·replace H := ifn Bool.false_ne_true H
    refine GoQ.pure rfl (op_eqlB Try.underlying4 rfl rfl) rfl rfl ?_
    refine GoQ.pure rfl (op_move rfl) rfl rfl ?_
    refine GoQ.call rfl (op_call body16 rfl (walk_law12_awake hO.lt H)) (fun v w hr => by obtain ⟨_, _, hs, _⟩ := hr; assumption) rfl rfl ?_
    rintro M2 M3 ⟨r101, rfl, GD, H⟩
    have sM := Stp.same hO GD
    replace hO := sM.own
    replace dF := dF.ch sM.ch
    replace dl := dl.ch sM.ch
    replace c5 := c5.ch sM.ch
    replace dG := dG.ch sM.ch
    replace dm := dm.ch sM.ch
    replace cK := cK.ch sM.ch
    replace hB := hB.trans sM.fr
    refine GoQ.pure rfl (op_pickT rfl rfl rfl) rfl rfl ?_
    refine GoQ.pure rfl (op_assign rfl) rfl rfl ?_
    refine GoQ.nil ?_
    refine Go1.ret1 Try.func7 rfl ?_
    exact ⟨r101, rfl, hB.same, H⟩
   replace H := ifp rfl H
   refine GoQ.pure rfl (op_eqlB Try.underlying4 rfl rfl) rfl rfl ?_
   refine GoQ.pure rfl (op_move rfl) rfl rfl ?_
   refine GoQ.pass rfl rfl rfl ?_
   refine GoQ.pure rfl (op_pickF rfl rfl rfl) rfl rfl ?_
   refine GoQ.pure rfl (op_assign rfl) rfl rfl ?_
   refine GoQ.nil ?_
   refine Go1.ret1 Try.func7 rfl ?_
   exact ⟨false, rfl, hB.same, H⟩
  replace H := ifn h56 H
  refine GoR.op ((fun w => opB (op_neq rfl rfl w) (ndF h56)) _) rfl rfl ?_
  refine GoR.nil ?_
  refine Go1.condT rfl rfl ?_
  refine Go1.seq ?_
  refine Go1.cut [] trivial ?_
  intro σ _
  refine Go1.region ?_
  refine GoR.op ((op_assign rfl) _) rfl rfl ?_
  refine GoR.nil ?_
  refine Go1.ret1 Try.func7 rfl ?_
  exact ⟨false, rfl, hB.same, H⟩
 replace H := ifn h13 H
 refine GoR.op ((op_maxF rfl rfl h13) _) rfl rfl ?_
 refine GoR.call (op_call body27 rfl (walk_ref01_Valid hO.lt tY H)) rfl rfl ?_
 rintro M4 M5 ⟨r107, rfl, GE, H⟩
 have x5 := Stp.same hO GE
 replace hO := x5.own
 replace b7 := b7.ch x5.ch
 replace hB := hB.trans x5.fr
 cases r107
 ·replace H := ifn Bool.false_ne_true H
  refine GoR.op ((op_not rfl) _) rfl rfl ?_
  refine GoR.op ((op_pickF rfl rfl rfl) _) rfl rfl ?_
  refine GoR.op ((op_move rfl) _) rfl rfl ?_
  refine GoR.pass rfl rfl ?_
  refine GoR.pass rfl rfl ?_
  refine GoR.op ((op_pickT rfl rfl rfl) _) rfl rfl ?_
  refine GoR.op ((op_move rfl) _) rfl rfl ?_
  refine GoR.pass rfl rfl ?_
  refine GoR.pass rfl rfl ?_
  refine GoR.pass rfl rfl ?_
  refine GoR.op ((op_pickT rfl rfl rfl) _) rfl rfl ?_
  refine GoR.nil ?_
  refine Go1.condT rfl rfl ?_
  refine Go1.seq ?_
  refine Go1.region ?_
  refine GoR.call (op_call body16 rfl (walk_law12_awake hO.lt H)) rfl rfl ?_
  rintro M6 M7 ⟨r113, rfl, GF, H⟩
  have x6 := Stp.same hO GF
  replace hO := x6.own
  replace b7 := b7.ch x6.ch
  replace hB := hB.trans x6.fr
  refine GoR.op ((op_assign rfl) _) rfl rfl ?_
  refine GoR.nil ?_
  refine Go1.ret1 Try.func7 rfl ?_
  exact ⟨r113, rfl, hB.same, H⟩
 replace H := ifp rfl H
 refine GoR.op ((op_not rfl) _) rfl rfl ?_
 refine GoR.op ((op_pickF rfl rfl rfl) _) rfl rfl ?_
 refine GoR.op ((op_move rfl) _) rfl rfl ?_
 refine GoR.op ((op_move rfl) _) rfl rfl ?_
 by_cases zr : a2 = (([] : Str))
 ·replace H := ifp zr H
  refine GoR.op ((fun w => opB (op_eqlS rfl rfl w) (decide_eq_true zr)) _) rfl rfl ?_
  refine GoR.op ((op_pickF rfl rfl rfl) _) rfl rfl ?_
  refine GoR.op ((op_move rfl) _) rfl rfl ?_
  refine GoR.pass rfl rfl ?_
  refine GoR.pass rfl rfl ?_
  refine GoR.pass rfl rfl ?_
  refine GoR.op ((op_pickT rfl rfl rfl) _) rfl rfl ?_
  refine GoR.nil ?_
  refine Go1.condT rfl rfl ?_
  refine Go1.seq ?_
  refine Go1.cut [] trivial ?_
  intro σ _
  refine Go1.region ?_
  refine GoR.call (op_call body16 rfl (walk_law12_awake hO.lt H)) rfl rfl ?_
  rintro M8 M9 ⟨r120, rfl, GG, H⟩
  have x7 := Stp.same hO GG
  replace hO := x7.own
  replace b7 := b7.ch x7.ch
  replace hB := hB.trans x7.fr
  refine GoR.op ((op_assign rfl) _) rfl rfl ?_
  refine GoR.nil ?_
  refine Go1.ret1 Try.func7 rfl ?_
  exact ⟨r120, rfl, hB.same, H⟩
 replace H := ifn zr H
 refine GoR.op ((fun w => opB (op_eqlS rfl rfl w) (decide_eq_false zr)) _) rfl rfl ?_
 refine GoR.op ((op_pickF rfl rfl rfl) _) rfl rfl ?_
 refine GoR.op ((op_move rfl) _) rfl rfl ?_
 refine GoR.op ((op_move rfl) _) rfl rfl ?_
 refine GoR.op ((op_lenS Try.underlying9 rfl) _) rfl rfl ?_
 replace H := H tY
 by_cases zt : (40 : Int) < (a2.length : Int)
 ·replace H := ifp zt H
  refine GoR.op ((fun w => opB (op_gtr rfl rfl w) (decide_eq_true zt)) _) rfl rfl ?_
  refine GoR.op ((op_pickF rfl rfl rfl) _) rfl rfl ?_
  refine GoR.nil ?_
  refine Go1.condT rfl rfl ?_
  refine Go1.seq ?_
  refine Go1.region ?_
  refine GoR.call (op_call body16 rfl (walk_law12_awake hO.lt H)) rfl rfl ?_
  rintro Na Nb ⟨r127, rfl, GH, H⟩
  have x8 := Stp.same hO GH
  replace hO := x8.own
  replace b7 := b7.ch x8.ch
  replace hB := hB.trans x8.fr
  refine GoR.op ((op_assign rfl) _) rfl rfl ?_
  refine GoR.nil ?_
  refine Go1.ret1 Try.func7 rfl ?_
  exact ⟨r127, rfl, hB.same, H⟩
 replace H := ifn zt H
 refine GoR.op ((fun w => opB (op_gtr rfl rfl w) (decide_eq_false zt)) _) rfl rfl ?_
 refine GoR.op ((op_pickF rfl rfl rfl) _) rfl rfl ?_
 refine GoR.nil ?_
 refine Go1.condF rfl rfl ?_
 refine Go1.skip ?_
 refine Go1.seq ?_
 refine Go1.region ?_
 refine GoR.op ((op_move rfl) _) rfl rfl ?_
 refine GoR.op ((op_move rfl) _) rfl rfl ?_
 refine GoR.call (op_call body17 rfl (walk_enumerate_Build hO.lt b7 H)) rfl rfl ?_
 rintro Nc Nd ⟨r133, r134, iK, iL, gN, gO, fS, fT, iM, iN, gP, gQ, fA, fB, rfl, GJ, dn, c6, cQ, dp, c7, cx, H⟩
 have jm := Stp.same hO GJ
 replace hO := jm.own
 replace b7 := b7.ch jm.ch
 replace hB := hB.trans jm.fr
 refine GoR.op ((op_move rfl) _) rfl rfl ?_
 refine GoR.op ((op_extract rfl rfl) _) rfl rfl ?_
 refine GoR.op ((op_extract rfl rfl) _) rfl rfl ?_
 have hobt := oalloc (t := 29) (cs := #[.int .i64 (0 : Int), .bool false, .slice none 0 0, .slice none 0 0, .slice none 0 0, .slice none 0 0, .slice none 0 0, .slice none 0 0, .int .i64 (0 : Int)]) ti29 hO rfl
 obtain ⟨Ih, B141, sb, AP, C9⟩ := hobt
 refine GoR.op C9 rfl rfl ?_
 replace hO := sb.own
 replace b7 := b7.ch sb.ch
 replace dn := dn.ch sb.ch
 replace c6 := c6.ch sb.ch
 replace cQ := cQ.ch sb.ch
 replace dp := dp.ch sb.ch
 replace c7 := c7.ch sb.ch
 replace cx := cx.ch sb.ch
 replace hB := hB.trans sb.fr
 have hobt := oblkStAgg (us := [.int .i64 r133.Points, .bool r133.Monoid, .slice iK r133.Gens.length iL, .slice gN r133.Elems.length gO, .slice fS r133.Prefix.length fT, .slice iM r133.Last.length iN, .slice gP r133.Right.length gQ, .slice fA r133.Rules.length fB, .int .i64 r133.Done]) (o := 0) (cs' := #[.int .i64 r133.Points, .bool r133.Monoid, .slice iK r133.Gens.length iL, .slice gN r133.Elems.length gO, .slice fS r133.Prefix.length fT, .slice iM r133.Last.length iN, .slice gP r133.Right.length gQ, .slice fA r133.Rules.length fB, .int .i64 r133.Done]) 0 hO rfl rfl (Nat.le_of_ble_eq_true rfl) rfl
 obtain ⟨Nf, sc, Db⟩ := hobt
 refine GoR.op (Db ti29 (by exact rfl) (by exact rfl) rfl) rfl rfl ?_
 replace hO := sc.own
 replace b7 := b7.ch sc.ch
 replace dn := dn.ch sc.ch
 replace c6 := c6.ch sc.ch
 replace cQ := cQ.ch sc.ch
 replace dp := dp.ch sc.ch
 replace c7 := c7.ch sc.ch
 replace cx := cx.ch sc.ch
 replace hB := hB.trans sc.fr
 refine GoR.op ((op_assign rfl) _) rfl rfl ?_
 refine GoR.nil ?_
 refine Go1.seq ?_
 refine Go1.seq ?_
 refine Go1.cut [(2, .string (gstr a2)), (7, .pointer (some ⟨B141, 0, none⟩)), (8, .int .i64 r134)] ⟨rfl, rfl, rfl, trivial⟩ ?_
 intro σ _
 refine Go1.region ?_
 refine GoR.op ((op_move rfl) _) rfl rfl ?_
 by_cases uS : r134 = (0 : Int)
 ·replace H := ifp uS H
  refine GoR.op ((fun w => opB (op_neq rfl rfl w) (ndT uS)) _) rfl rfl ?_
  refine GoR.nil ?_
  refine Go1.condF rfl rfl ?_
  refine Go1.skip ?_
  refine Go1.seq ?_
  refine Go1.region ?_
  refine GoR.op ((op_assign rfl) _) rfl rfl ?_
  refine GoR.nil ?_
  refine Go1.seq ?_
  refine Go1.seq ?_
  refine Go1.region ?_
  refine GoR.op ((op_fieldAddr Try.underlying29 rfl ti27 rfl (by decide)) _) rfl rfl ?_
  refine GoR.op ((oblk (i := 7) 0 hO rfl rfl Try.underlying27 rfl rfl) _ (Same.refl _)) rfl rfl ?_
  refine GoR.op ((op_len Try.underlying27 rfl) _) rfl rfl ?_
  replace H := H cx.bd
  refine GoR.op ((op_move rfl) _) rfl rfl ?_
  refine GoR.nil ?_
  refine Go1.block ?_
  refine Go1.loopW (S := Bool × Nat) (fun s σ w => match s with | (b2_151, k2_152) => agrees σ [(2, .string (gstr a2)), (7, .pointer (some ⟨B141, 0, none⟩)), (9, .bool b2_151), (42, .slice fA r133.Rules.length fB), (43, .int .i64 (r133.Rules.length : Int)), (44, .int .i64 (k2_152 : Int))] ∧ Owns w0.heap.size w [.blk B141 (.cells #[.int .i64 r133.Points, .bool r133.Monoid, .slice iK r133.Gens.length iL, .slice gN r133.Elems.length gO, .slice fS r133.Prefix.length fT, .slice iM r133.Last.length iN, .slice gP r133.Right.length gQ, .slice fA r133.Rules.length fB, .int .i64 r133.Done] 29 (0, 0))] A ∧ ISl (Rp.sl (Rp.int .i64)) (bl [.blk B141 (.cells #[.int .i64 r133.Points, .bool r133.Monoid, .slice iK r133.Gens.length iL, .slice gN r133.Elems.length gO, .slice fS r133.Prefix.length fT, .slice iM r133.Last.length iN, .slice gP r133.Right.length gQ, .slice fA r133.Rules.length fB, .int .i64 r133.Done] 29 (0, 0))] ++ A) w iK iL r133.Gens ∧ ISl (Rp.sl (Rp.int .i64)) (bl [.blk B141 (.cells #[.int .i64 r133.Points, .bool r133.Monoid, .slice iK r133.Gens.length iL, .slice gN r133.Elems.length gO, .slice fS r133.Prefix.length fT, .slice iM r133.Last.length iN, .slice gP r133.Right.length gQ, .slice fA r133.Rules.length fB, .int .i64 r133.Done] 29 (0, 0))] ++ A) w gN gO r133.Elems ∧ ISl (Rp.int .i64) (bl [.blk B141 (.cells #[.int .i64 r133.Points, .bool r133.Monoid, .slice iK r133.Gens.length iL, .slice gN r133.Elems.length gO, .slice fS r133.Prefix.length fT, .slice iM r133.Last.length iN, .slice gP r133.Right.length gQ, .slice fA r133.Rules.length fB, .int .i64 r133.Done] 29 (0, 0))] ++ A) w fS fT r133.Prefix ∧ ISl (Rp.int .i64) (bl [.blk B141 (.cells #[.int .i64 r133.Points, .bool r133.Monoid, .slice iK r133.Gens.length iL, .slice gN r133.Elems.length gO, .slice fS r133.Prefix.length fT, .slice iM r133.Last.length iN, .slice gP r133.Right.length gQ, .slice fA r133.Rules.length fB, .int .i64 r133.Done] 29 (0, 0))] ++ A) w iM iN r133.Last ∧ ISl (Rp.sl (Rp.int .i64)) (bl [.blk B141 (.cells #[.int .i64 r133.Points, .bool r133.Monoid, .slice iK r133.Gens.length iL, .slice gN r133.Elems.length gO, .slice fS r133.Prefix.length fT, .slice iM r133.Last.length iN, .slice gP r133.Right.length gQ, .slice fA r133.Rules.length fB, .int .i64 r133.Done] 29 (0, 0))] ++ A) w gP gQ r133.Right ∧ ISl (rpRule) (bl [.blk B141 (.cells #[.int .i64 r133.Points, .bool r133.Monoid, .slice iK r133.Gens.length iL, .slice gN r133.Elems.length gO, .slice fS r133.Prefix.length fT, .slice iM r133.Last.length iN, .slice gP r133.Right.length gQ, .slice fA r133.Rules.length fB, .int .i64 r133.Done] 29 (0, 0))] ++ A) w fA fB r133.Rules ∧ Fr (bl []) w0 (bl [.blk B141 (.cells #[.int .i64 r133.Points, .bool r133.Monoid, .slice iK r133.Gens.length iL, .slice gN r133.Elems.length gO, .slice fS r133.Prefix.length fT, .slice iM r133.Last.length iN, .slice gP r133.Right.length gQ, .slice fA r133.Rules.length fB, .int .i64 r133.Done] 29 (0, 0))]) w) H ⟨⟨rfl, rfl, rfl, rfl, rfl, rfl, trivial⟩, hO, dn, c6, cQ, dp, c7, cx, hB⟩ ?_
  intro X2
  refine prE fun b2_151 => fun k2_152 => ?_
  intro H hX2 σ HW
  refine andE fun hag => andE fun hO => andE fun dn => andE fun c6 => andE fun cQ => andE fun dp => andE fun c7 => andE fun cx => fun hB => ?_
  dsimp only at H
  refine Go1.keep [(2, .string (gstr a2)), (7, .pointer (some ⟨B141, 0, none⟩)), (9, .bool b2_151), (42, .slice fA r133.Rules.length fB), (43, .int .i64 (r133.Rules.length : Int)), (44, .int .i64 (k2_152 : Int))] hag ?_
  refine Go1.seq ?_
  refine Go1.region ?_
  by_cases wk : (k2_152 : Int) < (r133.Rules.length : Int)
  ·replace H := ifp wk H
   refine GoR.op ((fun w => opB (op_lss rfl rfl w) (decide_eq_true wk)) _) rfl rfl ?_
   refine GoR.nil ?_
   refine Go1.seq ?_
   refine Go1.condT rfl rfl ?_
   refine Go1.skip ?_
   refine Go1.seq ?_
   refine Go1.block ?_
   refine Go1.seq ?_
   refine Go1.region ?_
   obtain ⟨tm, H⟩ := H
   obtain ⟨sU, H⟩ := H
   refine GoR.op ((op_index Try.underlying27 ti39 rfl rfl tm sU (cx.some_ tm sU)) _) rfl rfl ?_
   have hok156 := ldFlatOk cx tm sU
   refine GoR.op ((ldFlat cx tm sU Try.underlying39 rfl ti39 rfl) _ (Same.refl _)) rfl rfl ?_
   have hobt := oalloc (t := 39) (cs := #[.string (gstr (([] : Str))), .string (gstr (([] : Str)))]) ti39 hO rfl
   obtain ⟨HX, B158, iP, Jw, xR⟩ := hobt
   refine GoR.op xR rfl rfl ?_
   replace hO := iP.own
   replace dn := dn.ch iP.ch
   replace c6 := c6.ch iP.ch
   replace cQ := cQ.ch iP.ch
   replace dp := dp.ch iP.ch
   replace c7 := c7.ch iP.ch
   replace cx := cx.ch iP.ch
   replace hB := hB.trans iP.fr
   have hobt := oblkStAgg (us := [.string (gstr ((ix r133.Rules (k2_152 : Int)).Left)), .string (gstr ((ix r133.Rules (k2_152 : Int)).Right))]) (o := 0) (cs' := #[.string (gstr ((ix r133.Rules (k2_152 : Int)).Left)), .string (gstr ((ix r133.Rules (k2_152 : Int)).Right))]) 0 hO rfl rfl (Nat.le_of_ble_eq_true rfl) rfl
   obtain ⟨Ng, gY, Dc⟩ := hobt
   refine GoR.op (Dc ti39 (by exact rfl) (by exact rfl) rfl) rfl rfl ?_
   replace hO := gY.own
   replace dn := dn.ch gY.ch
   replace c6 := c6.ch gY.ch
   replace cQ := cQ.ch gY.ch
   replace dp := dp.ch gY.ch
   replace c7 := c7.ch gY.ch
   replace cx := cx.ch gY.ch
   replace hB := hB.trans gY.fr
   refine GoR.nil ?_
   refine Go1.region ?_
   refine GoR.op ((op_move rfl) _) rfl rfl ?_
   refine GoR.op ((op_move rfl) _) rfl rfl ?_
   cases b2_151
   ·replace H := ifn Bool.false_ne_true H
    refine GoR.pass rfl rfl ?_
    refine GoR.pass rfl rfl ?_
    refine GoR.pass rfl rfl ?_
    refine GoR.pass rfl rfl ?_
    refine GoR.pass rfl rfl ?_
    refine GoR.op ((op_pickF rfl rfl rfl) _) rfl rfl ?_
    refine GoR.op ((op_assign rfl) _) rfl rfl ?_
    refine GoR.nil ?_
    refine Go1.inBlock ?_
    refine Go1.region ?_
    refine GoR.op ((op_add rfl rfl (wrap_i64 (natbd wk cx.bd))) _) rfl rfl ?_
    refine GoR.op ((op_move rfl) _) rfl rfl ?_
    refine GoR.nil ?_
    replace dn := dn.ch (Owns.dropCh _ _ 0)
    replace c6 := c6.ch (Owns.dropCh _ _ 0)
    replace cQ := cQ.ch (Owns.dropCh _ _ 0)
    replace dp := dp.ch (Owns.dropCh _ _ 0)
    replace c7 := c7.ch (Owns.dropCh _ _ 0)
    replace cx := cx.ch (Owns.dropCh _ _ 0)
    replace hB := hB.trans (Owns.dropFr _ _ 0)
    replace hO := hO.drop 0
    exact hX2 _ H _ _ ⟨⟨rfl, rfl, rfl, rfl, rfl, rfl, trivial⟩, hO, dn, c6, cQ, dp, c7, cx, hB⟩
   replace H := ifp rfl H
   refine GoR.op ((op_fieldAddr Try.underlying39 rfl ti9 rfl (by decide)) _) rfl rfl ?_
   refine GoR.op ((oblk (i := 0) 0 hO rfl rfl Try.underlying9 rfl rfl) _ (Same.refl _)) rfl rfl ?_
   refine GoR.op ((op_move rfl) _) rfl rfl ?_
   refine GoR.call (op_call body28 rfl (walk_ref01_IsFactor hO.lt hok156.1 tY H)) rfl rfl ?_
   rintro Nh Ni ⟨r166, rfl, GK, H⟩
   have sN := Stp.same hO GK
   replace hO := sN.own
   replace dn := dn.ch sN.ch
   replace c6 := c6.ch sN.ch
   replace cQ := cQ.ch sN.ch
   replace dp := dp.ch sN.ch
   replace c7 := c7.ch sN.ch
   replace cx := cx.ch sN.ch
   replace hB := hB.trans sN.fr
   cases r166
   ·replace H := ifn Bool.false_ne_true H
    refine GoR.op ((op_not rfl) _) rfl rfl ?_
    refine GoR.op ((op_pickT rfl rfl rfl) _) rfl rfl ?_
    refine GoR.op ((op_assign rfl) _) rfl rfl ?_
    refine GoR.nil ?_
    refine Go1.inBlock ?_
    refine Go1.cut [(2, .string (gstr a2)), (7, .pointer (some ⟨B141, 0, none⟩)), (9, .bool true), (42, .slice fA r133.Rules.length fB), (43, .int .i64 (r133.Rules.length : Int)), (44, .int .i64 (k2_152 : Int))] ⟨rfl, rfl, rfl, rfl, rfl, rfl, trivial⟩ ?_
    intro σ _
    refine Go1.region ?_
    refine GoR.op ((op_add rfl rfl (wrap_i64 (natbd wk cx.bd))) _) rfl rfl ?_
    refine GoR.op ((op_move rfl) _) rfl rfl ?_
    refine GoR.nil ?_
    replace dn := dn.ch (Owns.dropCh _ _ 0)
    replace c6 := c6.ch (Owns.dropCh _ _ 0)
    replace cQ := cQ.ch (Owns.dropCh _ _ 0)
    replace dp := dp.ch (Owns.dropCh _ _ 0)
    replace c7 := c7.ch (Owns.dropCh _ _ 0)
    replace cx := cx.ch (Owns.dropCh _ _ 0)
    replace hB := hB.trans (Owns.dropFr _ _ 0)
    replace hO := hO.drop 0
    exact hX2 _ H _ _ ⟨⟨rfl, rfl, rfl, rfl, rfl, rfl, trivial⟩, hO, dn, c6, cQ, dp, c7, cx, hB⟩
   replace H := ifp rfl H
   refine GoR.op ((op_not rfl) _) rfl rfl ?_
   refine GoR.op ((op_pickT rfl rfl rfl) _) rfl rfl ?_
   refine GoR.op ((op_assign rfl) _) rfl rfl ?_
   refine GoR.nil ?_
   refine Go1.inBlock ?_
   refine Go1.region ?_
   refine GoR.op ((op_add rfl rfl (wrap_i64 (natbd wk cx.bd))) _) rfl rfl ?_
   refine GoR.op ((op_move rfl) _) rfl rfl ?_
   refine GoR.nil ?_
   replace dn := dn.ch (Owns.dropCh _ _ 0)
   replace c6 := c6.ch (Owns.dropCh _ _ 0)
   replace cQ := cQ.ch (Owns.dropCh _ _ 0)
   replace dp := dp.ch (Owns.dropCh _ _ 0)
   replace c7 := c7.ch (Owns.dropCh _ _ 0)
   replace cx := cx.ch (Owns.dropCh _ _ 0)
   replace hB := hB.trans (Owns.dropFr _ _ 0)
   replace hO := hO.drop 0
   exact hX2 _ H _ _ ⟨⟨rfl, rfl, rfl, rfl, rfl, rfl, trivial⟩, hO, dn, c6, cQ, dp, c7, cx, hB⟩
  replace H := ifn wk H
  refine GoR.op ((fun w => opB (op_lss rfl rfl w) (decide_eq_false wk)) _) rfl rfl ?_
  refine GoR.nil ?_
  refine Go1.seq ?_
  refine Go1.condF rfl rfl ?_
  refine Go1.exit rfl ?_
  refine Go1.seq ?_
  refine Go1.drawS 0 [(0, .stable), (1, .stable), (2, .pure), (5, .pure), (7, .pure), (3, .loud), (4, .loud), (6, .pure), (8, .pure), (9, .pure), (10, .loud), (11, .pure), (12, .pure)] mixed (by kernel_rfl) ?_
  intro Nj GL
  have sO := Stp.same hO GL
  replace hO := sO.own
  replace dn := dn.ch sO.ch
  replace c6 := c6.ch sO.ch
  replace cQ := cQ.ch sO.ch
  replace dp := dp.ch sO.ch
  replace c7 := c7.ch sO.ch
  replace cx := cx.ch sO.ch
  replace hB := hB.trans sO.fr
  refine GoQ.stable rfl (oblkAgg (vs := [.int .i64 r133.Points, .bool r133.Monoid, .slice iK r133.Gens.length iL, .slice gN r133.Elems.length gO, .slice fS r133.Prefix.length fT, .slice iM r133.Last.length iN, .slice gP r133.Right.length gQ, .slice fA r133.Rules.length fB, .int .i64 r133.Done]) (i := 0) 0 hO rfl rfl Try.underlying29 rfl ti29 rfl) rfl rfl ?_
  refine GoQ.stable rfl (oblkAgg (vs := [.int .i64 r133.Points, .bool r133.Monoid, .slice iK r133.Gens.length iL, .slice gN r133.Elems.length gO, .slice fS r133.Prefix.length fT, .slice iM r133.Last.length iN, .slice gP r133.Right.length gQ, .slice fA r133.Rules.length fB, .int .i64 r133.Done]) (i := 0) 0 hO rfl rfl Try.underlying29 rfl ti29 rfl) rfl rfl ?_
  refine GoQ.pure rfl (op_move rfl) rfl rfl ?_
  refine GoQ.pure rfl (op_move rfl) rfl rfl ?_
  refine GoQ.pure rfl (op_move rfl) rfl rfl ?_
  refine GoQ.call rfl (op_call body30 rfl (walk_enumerate_OfWord (e := r133) hO.lt dn c6 cQ dp c7 cx tY H)) (fun v w hr => by obtain ⟨_, _, hs, _⟩ := hr; assumption) rfl rfl ?_
  rintro Nk HY ⟨r175, rfl, yO, H⟩
  have sP := Stp.same hO yO
  replace hO := sP.own
  replace dn := dn.ch sP.ch
  replace c6 := c6.ch sP.ch
  replace cQ := cQ.ch sP.ch
  replace dp := dp.ch sP.ch
  replace c7 := c7.ch sP.ch
  replace cx := cx.ch sP.ch
  replace hB := hB.trans sP.fr
  refine GoQ.call rfl (op_call body29 rfl (walk_enumerate_Word (e := r133) hO.lt dn c6 cQ dp c7 cx H)) (fun v w hr => by obtain ⟨_, _, hs, _, _⟩ := hr; assumption) rfl rfl ?_
  rintro Nl HZ ⟨r181, rfl, GM, IV, H⟩
  have sQ := Stp.same hO GM
  replace hO := sQ.own
  replace dn := dn.ch sQ.ch
  replace c6 := c6.ch sQ.ch
  replace cQ := cQ.ch sQ.ch
  replace dp := dp.ch sQ.ch
  replace c7 := c7.ch sQ.ch
  replace cx := cx.ch sQ.ch
  replace hB := hB.trans sQ.fr
  by_cases zu : r181 = a2
  ·replace H := ifp zu H
   refine GoQ.pure rfl (fun w => opB (op_eqlS rfl rfl w) (decide_eq_true zu)) rfl rfl ?_
   cases b2_151
   ·replace H := ifn Bool.false_ne_true H
    refine GoQ.pure rfl (op_eqlB Try.underlying4 rfl rfl) rfl rfl ?_
    refine GoQ.pure rfl (op_move rfl) rfl rfl ?_
    refine GoQ.pass rfl rfl rfl ?_
    refine GoQ.pure rfl (op_pickF rfl rfl rfl) rfl rfl ?_
    refine GoQ.pure rfl (op_assign rfl) rfl rfl ?_
    refine GoQ.nil ?_
    refine Go1.ret1 Try.func7 rfl ?_
    exact ⟨false, rfl, hB.same, H⟩
   replace H := ifp rfl H
   refine GoQ.pure rfl (op_eqlB Try.underlying4 rfl rfl) rfl rfl ?_
   refine GoQ.pure rfl (op_move rfl) rfl rfl ?_
   refine GoQ.call rfl (op_call body16 rfl (walk_law12_awake hO.lt H)) (fun v w hr => by obtain ⟨_, _, hs, _⟩ := hr; assumption) rfl rfl ?_
   rintro Nm Nn ⟨r188, rfl, GN, H⟩
   have sR := Stp.same hO GN
   replace hO := sR.own
   replace dn := dn.ch sR.ch
   replace c6 := c6.ch sR.ch
   replace cQ := cQ.ch sR.ch
   replace dp := dp.ch sR.ch
   replace c7 := c7.ch sR.ch
   replace cx := cx.ch sR.ch
   replace hB := hB.trans sR.fr
   refine GoQ.pure rfl (op_pickT rfl rfl rfl) rfl rfl ?_
   refine GoQ.pure rfl (op_assign rfl) rfl rfl ?_
   refine GoQ.nil ?_
   refine Go1.ret1 Try.func7 rfl ?_
   exact ⟨r188, rfl, hB.same, H⟩
  replace H := ifn zu H
  refine GoQ.pure rfl (fun w => opB (op_eqlS rfl rfl w) (decide_eq_false zu)) rfl rfl ?_
  cases b2_151
  ·replace H := ifn Bool.false_ne_true H
   refine GoQ.pure rfl (op_eqlB Try.underlying4 rfl rfl) rfl rfl ?_
   refine GoQ.pure rfl (op_move rfl) rfl rfl ?_
   refine GoQ.call rfl (op_call body16 rfl (walk_law12_awake hO.lt H)) (fun v w hr => by obtain ⟨_, _, hs, _⟩ := hr; assumption) rfl rfl ?_
   rintro Np Nq ⟨r194, rfl, GO, H⟩
   have sT := Stp.same hO GO
   replace hO := sT.own
   replace dn := dn.ch sT.ch
   replace c6 := c6.ch sT.ch
   replace cQ := cQ.ch sT.ch
   replace dp := dp.ch sT.ch
   replace c7 := c7.ch sT.ch
   replace cx := cx.ch sT.ch
   replace hB := hB.trans sT.fr
   refine GoQ.pure rfl (op_pickT rfl rfl rfl) rfl rfl ?_
   refine GoQ.pure rfl (op_assign rfl) rfl rfl ?_
   refine GoQ.nil ?_
   refine Go1.ret1 Try.func7 rfl ?_
   exact ⟨r194, rfl, hB.same, H⟩
  replace H := ifp rfl H
  refine GoQ.pure rfl (op_eqlB Try.underlying4 rfl rfl) rfl rfl ?_
  refine GoQ.pure rfl (op_move rfl) rfl rfl ?_
  refine GoQ.pass rfl rfl rfl ?_
  refine GoQ.pure rfl (op_pickF rfl rfl rfl) rfl rfl ?_
  refine GoQ.pure rfl (op_assign rfl) rfl rfl ?_
  refine GoQ.nil ?_
  refine Go1.ret1 Try.func7 rfl ?_
  exact ⟨false, rfl, hB.same, H⟩
 replace H := ifn uS H
 refine GoR.op ((fun w => opB (op_neq rfl rfl w) (ndF uS)) _) rfl rfl ?_
 refine GoR.nil ?_
 refine Go1.condT rfl rfl ?_
 refine Go1.seq ?_
 refine Go1.cut [] trivial ?_
 intro σ _
 refine Go1.region ?_
 refine GoR.op ((op_assign rfl) _) rfl rfl ?_
 refine GoR.nil ?_
 refine Go1.ret1 Try.func7 rfl ?_
 exact ⟨false, rfl, hB.same, H⟩
end Sg
