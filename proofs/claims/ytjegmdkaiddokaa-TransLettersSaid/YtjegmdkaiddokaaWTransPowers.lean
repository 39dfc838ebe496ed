/- The walks: each call keeps to its plain transformer. Printed by walkgen.py. -/
import Derived.Test.YtjegmdkaiddokaaWTransApplies
namespace Sg
open Go Go.RowKit Go.Proofs
set_option linter.unusedVariables false
set_option maxRecDepth 100000
set_option maxHeartbeats 4000000
theorem body27 : Body Try.prog 27 := ⟨Try.f27, Try.func27, rfl, by kernel_rfl⟩
theorem walk_trans_Power {A : List Nat} {w0 : World} {p_f : Option Addr} {c_f : Nat} {f : List Int} {k : Int} (hA : ∀ b ∈ A, b < w0.heap.size) (h_f : ISl (Rp.int .i64) A w0 p_f c_f f) {K : List Int → Prop} (H : trans_Power f k K) :
    CallsV Try.prog 27 #[.slice p_f f.length c_f, .int .i64 k] w0 (fun v w' => ∃ (r0 : List Int), ∃ (p_r0 : Option Addr), ∃ (c_r0 : Nat), v = .slice p_r0 r0.length c_r0 ∧ Same w0 w' ∧ ISl (Rp.int .i64) A w' p_r0 c_r0 r0 ∧ K r0) := by
 refine CallsV.of (l := [.slice p_f f.length c_f, .int .i64 k]) Try.func27 rfl Try.ntmps27 rfl ?_
 have hO := Owns.start hA
 have hB := Fr.refl (bl []) w0
 unfold trans_Power at H
 replace h_f := h_f.ch (Ch.start A w0)
 refine Go1.seq ?_
 refine Go1.region ?_
 refine GoR.op ((op_assign rfl) _) rfl rfl ?_
 refine GoR.nil ?_
 refine Go1.seq ?_
 refine Go1.seq ?_
 refine Go1.region ?_
 refine GoR.op ((op_move rfl) _) rfl rfl ?_
 refine GoR.call (op_call body21 rfl (walk_trans_Valid hO.lt h_f H)) rfl rfl ?_
 rintro v5 w2 ⟨r1, rfl, hs3, H⟩
 have hst6 := Stp.same hO hs3
 replace hO := hst6.own
 replace h_f := h_f.ch hst6.ch
 replace hB := hB.trans hst6.fr
 cases r1
 ·replace H := ifn Bool.false_ne_true H
  refine GoR.op ((op_not rfl) _) rfl rfl ?_
  refine GoR.op ((op_move rfl) _) rfl rfl ?_
  refine GoR.pass rfl rfl ?_
  refine GoR.pass rfl rfl ?_
  refine GoR.op ((op_pickT rfl rfl rfl) _) rfl rfl ?_
  refine GoR.nil ?_
  refine Go1.condT rfl rfl ?_
  refine Go1.seq ?_
  refine Go1.region ?_
  refine GoR.op ((op_assign rfl) _) rfl rfl ?_
  refine GoR.nil ?_
  refine Go1.ret1 Try.func27 rfl ?_
  exact ⟨([] : List Int), none, 0, rfl, hB.same, (ISl.null _ _ _), H⟩
 ·replace H := ifp rfl H
  refine GoR.op ((op_not rfl) _) rfl rfl ?_
  refine GoR.op ((op_move rfl) _) rfl rfl ?_
  refine GoR.op ((op_move rfl) _) rfl rfl ?_
  by_cases h7 : k < (0 : Int)
  ·replace H := ifp h7 H
   refine GoR.op ((fun w => opB (op_lss rfl rfl w) (decide_eq_true h7)) _) rfl rfl ?_
   refine GoR.op ((op_pickF rfl rfl rfl) _) rfl rfl ?_
   refine GoR.nil ?_
   refine Go1.condT rfl rfl ?_
   refine Go1.seq ?_
   refine Go1.region ?_
   refine GoR.op ((op_assign rfl) _) rfl rfl ?_
   refine GoR.nil ?_
   refine Go1.ret1 Try.func27 rfl ?_
   exact ⟨([] : List Int), none, 0, rfl, hB.same, (ISl.null _ _ _), H⟩
  ·replace H := ifn h7 H
   refine GoR.op ((fun w => opB (op_lss rfl rfl w) (decide_eq_false h7)) _) rfl rfl ?_
   refine GoR.op ((op_pickF rfl rfl rfl) _) rfl rfl ?_
   refine GoR.nil ?_
   refine Go1.condF rfl rfl ?_
   refine Go1.skip ?_
   refine Go1.seq ?_
   refine Go1.region ?_
   refine GoR.op ((op_move rfl) _) rfl rfl ?_
   refine GoR.op ((op_len Try.underlying22 rfl) _) rfl rfl ?_
   replace H := H h_f.bd
   refine GoR.call (op_call body20 rfl (walk_trans_Identity hO.lt H)) rfl rfl ?_
   rintro v12 w9 ⟨r8, p_r8, c_r8, rfl, hs10, h_r8, H⟩
   have hst13 := Stp.same hO hs10
   replace hO := hst13.own
   replace h_f := h_f.ch hst13.ch
   replace hB := hB.trans hst13.fr
   refine GoR.op ((op_move rfl) _) rfl rfl ?_
   refine GoR.op ((op_assign rfl) _) rfl rfl ?_
   refine GoR.op ((op_assign rfl) _) rfl rfl ?_
   refine GoR.nil ?_
   refine Go1.seq ?_
   refine Go1.block ?_
   refine Go1.loopW (S := Int × List Int × List Int) (fun s σ w => ∃ (p17 : Option Addr), ∃ (c18 : Nat), ∃ (p21 : Option Addr), ∃ (c22 : Nat), agrees σ [(1, .int .i64 (s.1)), (5, .slice p17 (s.2.1).length c18), (6, .slice p21 (s.2.2).length c22)] ∧ Owns w0.heap.size w [] A ∧ ISl (Rp.int .i64) (bl [] ++ A) w p17 c18 (s.2.1) ∧ ISl (Rp.int .i64) (bl [] ++ A) w p21 c22 (s.2.2) ∧ Fr (bl []) w0 (bl []) w) H ⟨p_r8, c_r8, p_f, c_f, ⟨rfl, rfl, rfl, trivial⟩, hO, h_r8, h_f, hB⟩ ?_
   rintro X1 ⟨k1_15, result1_16, square1_20⟩ H hX1 σ w14 ⟨p17, c18, p21, c22, hag, hO, hi19, hi23, hB⟩
   dsimp only at H
   refine Go1.keep [(1, .int .i64 k1_15), (5, .slice p17 result1_16.length c18), (6, .slice p21 square1_20.length c22)] hag ?_
   refine Go1.seq ?_
   refine Go1.seq ?_
   refine Go1.region ?_
   refine GoR.op ((op_move rfl) _) rfl rfl ?_
   by_cases h24 : (0 : Int) < k1_15
   ·replace H := ifp h24 H
    refine GoR.op ((fun w => opB (op_gtr rfl rfl w) (decide_eq_true h24)) _) rfl rfl ?_
    refine GoR.nil ?_
    refine Go1.condT rfl rfl ?_
    refine Go1.skip ?_
    refine Go1.seq ?_
    refine Go1.block ?_
    refine Go1.seq ?_
    refine Go1.seq ?_
    refine Go1.region ?_
    refine GoR.op ((op_move rfl) _) rfl rfl ?_
    refine GoR.op ((op_and rfl rfl) _) rfl rfl ?_
    by_cases h25 : (bits .and .i64 k1_15 (1 : Int)) = (1 : Int)
    ·replace H := ifp h25 H
     refine GoR.op ((fun w => opB (op_eql rfl rfl w) (decide_eq_true h25)) _) rfl rfl ?_
     refine GoR.nil ?_
     refine Go1.condT rfl rfl ?_
     refine Go1.region ?_
     refine GoR.op ((op_move rfl) _) rfl rfl ?_
     refine GoR.op ((op_move rfl) _) rfl rfl ?_
     refine GoR.call (op_call body15 rfl (walk_trans_Compose hO.lt hi19 hi23 H)) rfl rfl ?_
     rintro v30 w27 ⟨r26, p_r26, c_r26, rfl, hs28, h_r26, H⟩
     have hst31 := Stp.same hO hs28
     replace hO := hst31.own
     replace hi19 := hi19.ch hst31.ch
     replace hi23 := hi23.ch hst31.ch
     replace hB := hB.trans hst31.fr
     refine GoR.op ((op_assign rfl) _) rfl rfl ?_
     refine GoR.nil ?_
     refine Go1.region ?_
     refine GoR.op ((op_move rfl) _) rfl rfl ?_
     refine GoR.op ((op_move rfl) _) rfl rfl ?_
     refine GoR.call (op_call body15 rfl (walk_trans_Compose hO.lt hi23 hi23 H)) rfl rfl ?_
     rintro v36 w33 ⟨r32, p_r32, c_r32, rfl, hs34, h_r32, H⟩
     have hst37 := Stp.same hO hs34
     replace hO := hst37.own
     replace hi19 := hi19.ch hst37.ch
     replace hi23 := hi23.ch hst37.ch
     replace h_r26 := h_r26.ch hst37.ch
     replace hB := hB.trans hst37.fr
     refine GoR.op ((op_assign rfl) _) rfl rfl ?_
     refine GoR.nil ?_
     refine Go1.inBlock ?_
     refine Go1.region ?_
     refine GoR.op ((op_move rfl) _) rfl rfl ?_
     refine GoR.op ((op_shr rfl rfl (by decide) rfl) _) rfl rfl ?_
     refine GoR.op ((op_assign rfl) _) rfl rfl ?_
     refine GoR.nil ?_
     exact hX1 _ H _ _ ⟨p_r26, c_r26, p_r32, c_r32, ⟨rfl, rfl, rfl, trivial⟩, hO, h_r26, h_r32, hB⟩
    ·replace H := ifn h25 H
     refine GoR.op ((fun w => opB (op_eql rfl rfl w) (decide_eq_false h25)) _) rfl rfl ?_
     refine GoR.nil ?_
     refine Go1.condF rfl rfl ?_
     refine Go1.skip ?_
     refine Go1.region ?_
     refine GoR.op ((op_move rfl) _) rfl rfl ?_
     refine GoR.op ((op_move rfl) _) rfl rfl ?_
     refine GoR.call (op_call body15 rfl (walk_trans_Compose hO.lt hi23 hi23 H)) rfl rfl ?_
     rintro v42 w39 ⟨r38, p_r38, c_r38, rfl, hs40, h_r38, H⟩
     have hst43 := Stp.same hO hs40
     replace hO := hst43.own
     replace hi19 := hi19.ch hst43.ch
     replace hi23 := hi23.ch hst43.ch
     replace hB := hB.trans hst43.fr
     refine GoR.op ((op_assign rfl) _) rfl rfl ?_
     refine GoR.nil ?_
     refine Go1.inBlock ?_
     refine Go1.region ?_
     refine GoR.op ((op_move rfl) _) rfl rfl ?_
     refine GoR.op ((op_shr rfl rfl (by decide) rfl) _) rfl rfl ?_
     refine GoR.op ((op_assign rfl) _) rfl rfl ?_
     refine GoR.nil ?_
     exact hX1 _ H _ _ ⟨p17, c18, p_r38, c_r38, ⟨rfl, rfl, rfl, trivial⟩, hO, hi19, h_r38, hB⟩
   ·replace H := ifn h24 H
    refine GoR.op ((fun w => opB (op_gtr rfl rfl w) (decide_eq_false h24)) _) rfl rfl ?_
    refine GoR.nil ?_
    refine Go1.condF rfl rfl ?_
    refine Go1.exit rfl ?_
    refine Go1.seq ?_
    refine Go1.region ?_
    refine GoR.op ((op_move rfl) _) rfl rfl ?_
    refine GoR.op ((op_assign rfl) _) rfl rfl ?_
    refine GoR.nil ?_
    refine Go1.ret1 Try.func27 rfl ?_
    exact ⟨result1_16, p17, c18, rfl, hB.same, (hi19.ch (Ch.weak _ _ _)), H⟩
theorem body28 : Body Try.prog 28 := ⟨Try.f28, Try.func28, rfl, by kernel_rfl⟩
theorem walk_ref11_Power {A : List Nat} {w0 : World} {p_f : Option Addr} {c_f : Nat} {f : List Int} {k : Int} (hA : ∀ b ∈ A, b < w0.heap.size) (h_f : ISl (Rp.int .i64) A w0 p_f c_f f) {K : List Int → Prop} (H : ref11_Power f k K) :
    CallsV Try.prog 28 #[.slice p_f f.length c_f, .int .i64 k] w0 (fun v w' => ∃ (r0 : List Int), ∃ (p_r0 : Option Addr), ∃ (c_r0 : Nat), v = .slice p_r0 r0.length c_r0 ∧ Same w0 w' ∧ ISl (Rp.int .i64) A w' p_r0 c_r0 r0 ∧ K r0) := by
 refine CallsV.of (l := [.slice p_f f.length c_f, .int .i64 k]) Try.func28 rfl Try.ntmps28 rfl ?_
 have hO := Owns.start hA
 have hB := Fr.refl (bl []) w0
 unfold ref11_Power at H
 replace h_f := h_f.ch (Ch.start A w0)
 refine Go1.seq ?_
 refine Go1.region ?_
 refine GoR.op ((op_assign rfl) _) rfl rfl ?_
 refine GoR.nil ?_
 refine Go1.seq ?_
 refine Go1.region ?_
 refine GoR.op ((op_move rfl) _) rfl rfl ?_
 refine GoR.op ((op_len Try.underlying22 rfl) _) rfl rfl ?_
 replace H := H h_f.bd
 refine GoR.call (op_call body23 rfl (walk_ref03_Discrete hO.lt H)) rfl rfl ?_
 rintro v5 w2 ⟨r1, p_r1, c_r1, rfl, hs3, h_r1, H⟩
 have hst6 := Stp.same hO hs3
 replace hO := hst6.own
 replace h_f := h_f.ch hst6.ch
 replace hB := hB.trans hst6.fr
 refine GoR.op ((op_assign rfl) _) rfl rfl ?_
 refine GoR.nil ?_
 refine Go1.seq ?_
 refine Go1.block ?_
 refine Go1.loopW (S := List Int × Int × List Int) (fun s σ w => ∃ (p9 : Option Addr), ∃ (c10 : Nat), ∃ (p14 : Option Addr), ∃ (c15 : Nat), agrees σ [(0, .slice p9 (s.1).length c10), (1, .int .i64 (s.2.1)), (5, .slice p14 (s.2.2).length c15)] ∧ Owns w0.heap.size w [] A ∧ ISl (Rp.int .i64) (bl [] ++ A) w p9 c10 (s.1) ∧ ISl (Rp.int .i64) (bl [] ++ A) w p14 c15 (s.2.2) ∧ Fr (bl []) w0 (bl []) w) H ⟨p_f, c_f, p_r1, c_r1, ⟨rfl, rfl, rfl, trivial⟩, hO, h_f, h_r1, hB⟩ ?_
 rintro X1 ⟨f1_8, k1_12, out1_13⟩ H hX1 σ w7 ⟨p9, c10, p14, c15, hag, hO, hi11, hi16, hB⟩
 dsimp only at H
 refine Go1.keep [(0, .slice p9 f1_8.length c10), (1, .int .i64 k1_12), (5, .slice p14 out1_13.length c15)] hag ?_
 refine Go1.seq ?_
 refine Go1.seq ?_
 refine Go1.region ?_
 refine GoR.op ((op_move rfl) _) rfl rfl ?_
 by_cases h17 : (0 : Int) < k1_12
 ·replace H := ifp h17 H
  refine GoR.op ((fun w => opB (op_gtr rfl rfl w) (decide_eq_true h17)) _) rfl rfl ?_
  refine GoR.nil ?_
  refine Go1.condT rfl rfl ?_
  refine Go1.skip ?_
  refine Go1.seq ?_
  refine Go1.block ?_
  refine Go1.seq ?_
  refine Go1.seq ?_
  refine Go1.region ?_
  refine GoR.op ((op_move rfl) _) rfl rfl ?_
  refine GoR.op ((op_rem rfl rfl (by decide) rfl) _) rfl rfl ?_
  by_cases h18 : (k1_12.tmod (2 : Int)) = (1 : Int)
  ·replace H := ifp h18 H
   refine GoR.op ((fun w => opB (op_eql rfl rfl w) (decide_eq_true h18)) _) rfl rfl ?_
   refine GoR.nil ?_
   refine Go1.condT rfl rfl ?_
   refine Go1.region ?_
   refine GoR.op ((op_move rfl) _) rfl rfl ?_
   refine GoR.op ((op_move rfl) _) rfl rfl ?_
   refine GoR.call (op_call body19 rfl (walk_ref11_Compose hO.lt hi16 hi11 H)) rfl rfl ?_
   rintro v23 w20 ⟨r19, p_r19, c_r19, rfl, hs21, h_r19, H⟩
   have hst24 := Stp.same hO hs21
   replace hO := hst24.own
   replace hi11 := hi11.ch hst24.ch
   replace hi16 := hi16.ch hst24.ch
   replace hB := hB.trans hst24.fr
   refine GoR.op ((op_assign rfl) _) rfl rfl ?_
   refine GoR.nil ?_
   refine Go1.region ?_
   refine GoR.op ((op_move rfl) _) rfl rfl ?_
   refine GoR.op ((op_move rfl) _) rfl rfl ?_
   refine GoR.call (op_call body19 rfl (walk_ref11_Compose hO.lt hi11 hi11 H)) rfl rfl ?_
   rintro v29 w26 ⟨r25, p_r25, c_r25, rfl, hs27, h_r25, H⟩
   have hst30 := Stp.same hO hs27
   replace hO := hst30.own
   replace hi11 := hi11.ch hst30.ch
   replace hi16 := hi16.ch hst30.ch
   replace h_r19 := h_r19.ch hst30.ch
   replace hB := hB.trans hst30.fr
   refine GoR.op ((op_assign rfl) _) rfl rfl ?_
   refine GoR.nil ?_
   refine Go1.inBlock ?_
   refine Go1.region ?_
   refine GoR.op ((op_move rfl) _) rfl rfl ?_
   obtain ⟨h31, H⟩ := H
   refine GoR.op ((op_quo rfl rfl (by decide) (wrap_i64 h31)) _) rfl rfl ?_
   refine GoR.op ((op_assign rfl) _) rfl rfl ?_
   refine GoR.nil ?_
   exact hX1 _ H _ _ ⟨p_r25, c_r25, p_r19, c_r19, ⟨rfl, rfl, rfl, trivial⟩, hO, h_r25, h_r19, hB⟩
  ·replace H := ifn h18 H
   refine GoR.op ((fun w => opB (op_eql rfl rfl w) (decide_eq_false h18)) _) rfl rfl ?_
   refine GoR.nil ?_
   refine Go1.condF rfl rfl ?_
   refine Go1.skip ?_
   refine Go1.region ?_
   refine GoR.op ((op_move rfl) _) rfl rfl ?_
   refine GoR.op ((op_move rfl) _) rfl rfl ?_
   refine GoR.call (op_call body19 rfl (walk_ref11_Compose hO.lt hi11 hi11 H)) rfl rfl ?_
   rintro v36 w33 ⟨r32, p_r32, c_r32, rfl, hs34, h_r32, H⟩
   have hst37 := Stp.same hO hs34
   replace hO := hst37.own
   replace hi11 := hi11.ch hst37.ch
   replace hi16 := hi16.ch hst37.ch
   replace hB := hB.trans hst37.fr
   refine GoR.op ((op_assign rfl) _) rfl rfl ?_
   refine GoR.nil ?_
   refine Go1.inBlock ?_
   refine Go1.region ?_
   refine GoR.op ((op_move rfl) _) rfl rfl ?_
   obtain ⟨h38, H⟩ := H
   refine GoR.op ((op_quo rfl rfl (by decide) (wrap_i64 h38)) _) rfl rfl ?_
   refine GoR.op ((op_assign rfl) _) rfl rfl ?_
   refine GoR.nil ?_
   exact hX1 _ H _ _ ⟨p_r32, c_r32, p14, c15, ⟨rfl, rfl, rfl, trivial⟩, hO, h_r32, hi16, hB⟩
 ·replace H := ifn h17 H
  refine GoR.op ((fun w => opB (op_gtr rfl rfl w) (decide_eq_false h17)) _) rfl rfl ?_
  refine GoR.nil ?_
  refine Go1.condF rfl rfl ?_
  refine Go1.exit rfl ?_
  refine Go1.seq ?_
  refine Go1.region ?_
  refine GoR.op ((op_move rfl) _) rfl rfl ?_
  refine GoR.op ((op_assign rfl) _) rfl rfl ?_
  refine GoR.nil ?_
  refine Go1.ret1 Try.func28 rfl ?_
  exact ⟨out1_13, p14, c15, rfl, hB.same, (hi16.ch (Ch.weak _ _ _)), H⟩
theorem body6 : Body Try.prog 6 := ⟨Try.f6, Try.func6, rfl, by kernel_rfl⟩
theorem walk_law11_TransPowers {A : List Nat} {w0 : World} {p_f : Option Addr} {c_f : Nat} {f : List Int} {k : Int} (hA : ∀ b ∈ A, b < w0.heap.size) (h_f : ISl (Rp.int .i64) A w0 p_f c_f f) {K : Bool → Prop} (H : law11_TransPowers f k K) :
    CallsV Try.prog 6 #[.slice p_f f.length c_f, .int .i64 k] w0 (fun v w' => ∃ (r0 : Bool), v = .bool r0 ∧ Same w0 w' ∧ K r0) := by
 refine CallsV.of (l := [.slice p_f f.length c_f, .int .i64 k]) Try.func6 rfl Try.ntmps6 rfl ?_
 have hO := Owns.start hA
 have hB := Fr.refl (bl []) w0
 unfold law11_TransPowers at H
 replace h_f := h_f.ch (Ch.start A w0)
 refine Go1.seq ?_
 refine Go1.region ?_
 refine GoR.op ((op_assign rfl) _) rfl rfl ?_
 refine GoR.nil ?_
 refine Go1.seq ?_
 refine Go1.region ?_
 refine GoR.op ((op_move rfl) _) rfl rfl ?_
 refine GoR.op ((op_move rfl) _) rfl rfl ?_
 refine GoR.call (op_call body27 rfl (walk_trans_Power hO.lt h_f H)) rfl rfl ?_
 rintro v5 w2 ⟨r1, p_r1, c_r1, rfl, hs3, h_r1, H⟩
 have hst6 := Stp.same hO hs3
 replace hO := hst6.own
 replace h_f := h_f.ch hst6.ch
 replace hB := hB.trans hst6.fr
 refine GoR.op ((op_assign rfl) _) rfl rfl ?_
 refine GoR.nil ?_
 refine Go1.seq ?_
 refine Go1.seq ?_
 refine Go1.region ?_
 refine GoR.op ((op_move rfl) _) rfl rfl ?_
 refine GoR.call (op_call body22 rfl (walk_ref11_Valid hO.lt h_f H)) rfl rfl ?_
 rintro v11 w8 ⟨r7, rfl, hs9, H⟩
 have hst12 := Stp.same hO hs9
 replace hO := hst12.own
 replace h_f := h_f.ch hst12.ch
 replace h_r1 := h_r1.ch hst12.ch
 replace hB := hB.trans hst12.fr
 cases r7
 ·replace H := ifn Bool.false_ne_true H
  refine GoR.op ((op_not rfl) _) rfl rfl ?_
  refine GoR.op ((op_move rfl) _) rfl rfl ?_
  refine GoR.pass rfl rfl ?_
  refine GoR.pass rfl rfl ?_
  refine GoR.op ((op_pickT rfl rfl rfl) _) rfl rfl ?_
  refine GoR.nil ?_
  refine Go1.condT rfl rfl ?_
  refine Go1.seq ?_
  refine Go1.region ?_
  refine GoR.op ((op_move rfl) _) rfl rfl ?_
  refine GoR.op ((op_len Try.underlying22 rfl) _) rfl rfl ?_
  replace H := H h_r1.bd
  by_cases h13 : (r1.length : Int) = (0 : Int)
  ·replace H := ifp h13 H
   refine GoR.op ((fun w => opB (op_eql rfl rfl w) (decide_eq_true h13)) _) rfl rfl ?_
   refine GoR.op ((op_move rfl) _) rfl rfl ?_
   refine GoR.call (op_call body17 rfl (walk_law11_awake hO.lt H)) rfl rfl ?_
   rintro v18 w15 ⟨r14, rfl, hs16, H⟩
   have hst19 := Stp.same hO hs16
   replace hO := hst19.own
   replace h_f := h_f.ch hst19.ch
   replace h_r1 := h_r1.ch hst19.ch
   replace hB := hB.trans hst19.fr
   refine GoR.op ((op_pickT rfl rfl rfl) _) rfl rfl ?_
   refine GoR.op ((op_assign rfl) _) rfl rfl ?_
   refine GoR.nil ?_
   refine Go1.ret1 Try.func6 rfl ?_
   exact ⟨r14, rfl, hB.same, H⟩
  ·replace H := ifn h13 H
   refine GoR.op ((fun w => opB (op_eql rfl rfl w) (decide_eq_false h13)) _) rfl rfl ?_
   refine GoR.op ((op_move rfl) _) rfl rfl ?_
   refine GoR.pass rfl rfl ?_
   refine GoR.op ((op_pickF rfl rfl rfl) _) rfl rfl ?_
   refine GoR.op ((op_assign rfl) _) rfl rfl ?_
   refine GoR.nil ?_
   refine Go1.ret1 Try.func6 rfl ?_
   exact ⟨false, rfl, hB.same, H⟩
 ·replace H := ifp rfl H
  refine GoR.op ((op_not rfl) _) rfl rfl ?_
  refine GoR.op ((op_move rfl) _) rfl rfl ?_
  refine GoR.op ((op_move rfl) _) rfl rfl ?_
  by_cases h20 : k < (0 : Int)
  ·replace H := ifp h20 H
   refine GoR.op ((fun w => opB (op_lss rfl rfl w) (decide_eq_true h20)) _) rfl rfl ?_
   refine GoR.op ((op_pickF rfl rfl rfl) _) rfl rfl ?_
   refine GoR.nil ?_
   refine Go1.condT rfl rfl ?_
   refine Go1.seq ?_
   refine Go1.region ?_
   refine GoR.op ((op_move rfl) _) rfl rfl ?_
   refine GoR.op ((op_len Try.underlying22 rfl) _) rfl rfl ?_
   replace H := H h_r1.bd
   by_cases h21 : (r1.length : Int) = (0 : Int)
   ·replace H := ifp h21 H
    refine GoR.op ((fun w => opB (op_eql rfl rfl w) (decide_eq_true h21)) _) rfl rfl ?_
    refine GoR.op ((op_move rfl) _) rfl rfl ?_
    refine GoR.call (op_call body17 rfl (walk_law11_awake hO.lt H)) rfl rfl ?_
    rintro v26 w23 ⟨r22, rfl, hs24, H⟩
    have hst27 := Stp.same hO hs24
    replace hO := hst27.own
    replace h_f := h_f.ch hst27.ch
    replace h_r1 := h_r1.ch hst27.ch
    replace hB := hB.trans hst27.fr
    refine GoR.op ((op_pickT rfl rfl rfl) _) rfl rfl ?_
    refine GoR.op ((op_assign rfl) _) rfl rfl ?_
    refine GoR.nil ?_
    refine Go1.ret1 Try.func6 rfl ?_
    exact ⟨r22, rfl, hB.same, H⟩
   ·replace H := ifn h21 H
    refine GoR.op ((fun w => opB (op_eql rfl rfl w) (decide_eq_false h21)) _) rfl rfl ?_
    refine GoR.op ((op_move rfl) _) rfl rfl ?_
    refine GoR.pass rfl rfl ?_
    refine GoR.op ((op_pickF rfl rfl rfl) _) rfl rfl ?_
    refine GoR.op ((op_assign rfl) _) rfl rfl ?_
    refine GoR.nil ?_
    refine Go1.ret1 Try.func6 rfl ?_
    exact ⟨false, rfl, hB.same, H⟩
  ·replace H := ifn h20 H
   refine GoR.op ((fun w => opB (op_lss rfl rfl w) (decide_eq_false h20)) _) rfl rfl ?_
   refine GoR.op ((op_pickF rfl rfl rfl) _) rfl rfl ?_
   refine GoR.nil ?_
   refine Go1.condF rfl rfl ?_
   refine Go1.skip ?_
   refine Go1.seq ?_
   refine Go1.region ?_
   refine GoR.op ((op_move rfl) _) rfl rfl ?_
   refine GoR.op ((op_move rfl) _) rfl rfl ?_
   refine GoR.op ((op_move rfl) _) rfl rfl ?_
   refine GoR.call (op_call body28 rfl (walk_ref11_Power hO.lt h_f H)) rfl rfl ?_
   rintro v32 w29 ⟨r28, p_r28, c_r28, rfl, hs30, h_r28, H⟩
   have hst33 := Stp.same hO hs30
   replace hO := hst33.own
   replace h_f := h_f.ch hst33.ch
   replace h_r1 := h_r1.ch hst33.ch
   replace hB := hB.trans hst33.fr
   refine GoR.call (op_call body18 rfl (walk_ref03_Same hO.lt h_r1 h_r28 H)) rfl rfl ?_
   rintro v38 w35 ⟨r34, rfl, hs36, H⟩
   have hst39 := Stp.same hO hs36
   replace hO := hst39.own
   replace h_f := h_f.ch hst39.ch
   replace h_r1 := h_r1.ch hst39.ch
   replace h_r28 := h_r28.ch hst39.ch
   replace hB := hB.trans hst39.fr
   refine GoR.op ((op_move rfl) _) rfl rfl ?_
   cases r34
   ·replace H := ifn Bool.false_ne_true H
    refine GoR.pass rfl rfl ?_
    refine GoR.op ((op_pickF rfl rfl rfl) _) rfl rfl ?_
    refine GoR.op ((op_assign rfl) _) rfl rfl ?_
    refine GoR.nil ?_
    refine Go1.ret1 Try.func6 rfl ?_
    exact ⟨false, rfl, hB.same, H⟩
   ·replace H := ifp rfl H
    refine GoR.call (op_call body17 rfl (walk_law11_awake hO.lt H)) rfl rfl ?_
    rintro v44 w41 ⟨r40, rfl, hs42, H⟩
    have hst45 := Stp.same hO hs42
    replace hO := hst45.own
    replace h_f := h_f.ch hst45.ch
    replace h_r1 := h_r1.ch hst45.ch
    replace h_r28 := h_r28.ch hst45.ch
    replace hB := hB.trans hst45.fr
    refine GoR.op ((op_pickT rfl rfl rfl) _) rfl rfl ?_
    refine GoR.op ((op_assign rfl) _) rfl rfl ?_
    refine GoR.nil ?_
    refine Go1.ret1 Try.func6 rfl ?_
    exact ⟨r40, rfl, hB.same, H⟩
end Sg
