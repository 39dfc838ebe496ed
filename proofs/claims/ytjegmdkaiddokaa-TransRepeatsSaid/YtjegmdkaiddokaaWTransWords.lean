/- The walks: each call keeps to its plain transformer. Printed by walkgen.py. -/
import Derived.Test.YtjegmdkaiddokaaWTransPowers
namespace Sg
open Go Go.RowKit Go.Proofs
set_option linter.unusedVariables false
set_option maxRecDepth 100000
theorem body54 : Body Try.prog 54 := ⟨Try.f54, Try.func54, rfl, by kernel_rfl⟩
theorem walk_word_Valid {A : List Nat} {w0 : World} {w_ : Str} {letters : Int} (hA : ∀ b ∈ A, b < w0.heap.size) (hs_w_ : w_.length ≤ mx) {K : Bool → Prop} (H : word_Valid w_ letters K) :
    CallsV Try.prog 54 #[.string (gstr w_), .int .i64 letters] w0 (fun v w' => ∃ (r0 : Bool), v = .bool r0 ∧ Same w0 w' ∧ K r0) := by
 refine CallsV.of (l := [.string (gstr w_), .int .i64 letters]) Try.func54 rfl Try.ntmps54 rfl ?_
 have hO := Owns.start hA
 have hB := Below.refl w0.heap.size w0
 unfold word_Valid at H
 refine Go1.seq ?_
 refine Go1.region ?_
 refine GoR.op ((op_assign rfl) _) rfl rfl ?_
 refine GoR.nil ?_
 refine Go1.seq ?_
 refine Go1.seq ?_
 refine Go1.region ?_
 refine GoR.op ((op_move rfl) _) rfl rfl ?_
 by_cases h1 : letters < (1 : Int)
 ·replace H := ifp h1 H
  refine GoR.op ((fun w => opB (op_lss rfl rfl w) (decide_eq_true h1)) _) rfl rfl ?_
  refine GoR.op ((op_move rfl) _) rfl rfl ?_
  refine GoR.pass rfl rfl ?_
  refine GoR.pass rfl rfl ?_
  refine GoR.op ((op_pickT rfl rfl rfl) _) rfl rfl ?_
  refine GoR.op ((op_move rfl) _) rfl rfl ?_
  refine GoR.pass rfl rfl ?_
  refine GoR.pass rfl rfl ?_
  refine GoR.pass rfl rfl ?_
  refine GoR.op ((op_pickT rfl rfl rfl) _) rfl rfl ?_
  refine GoR.nil ?_
  refine Go1.condT rfl rfl ?_
  refine Go1.seq ?_
  refine Go1.region ?_
  refine GoR.op ((op_assign rfl) _) rfl rfl ?_
  refine GoR.nil ?_
  refine Go1.ret1 Try.func54 rfl ?_
  exact ⟨false, rfl, (Below.same' hB), H⟩
 ·replace H := ifn h1 H
  refine GoR.op ((fun w => opB (op_lss rfl rfl w) (decide_eq_false h1)) _) rfl rfl ?_
  refine GoR.op ((op_move rfl) _) rfl rfl ?_
  refine GoR.op ((op_move rfl) _) rfl rfl ?_
  by_cases h2 : (6 : Int) < letters
  ·replace H := ifp h2 H
   refine GoR.op ((fun w => opB (op_gtr rfl rfl w) (decide_eq_true h2)) _) rfl rfl ?_
   refine GoR.op ((op_pickF rfl rfl rfl) _) rfl rfl ?_
   refine GoR.op ((op_move rfl) _) rfl rfl ?_
   refine GoR.pass rfl rfl ?_
   refine GoR.pass rfl rfl ?_
   refine GoR.pass rfl rfl ?_
   refine GoR.op ((op_pickT rfl rfl rfl) _) rfl rfl ?_
   refine GoR.nil ?_
   refine Go1.condT rfl rfl ?_
   refine Go1.seq ?_
   refine Go1.region ?_
   refine GoR.op ((op_assign rfl) _) rfl rfl ?_
   refine GoR.nil ?_
   refine Go1.ret1 Try.func54 rfl ?_
   exact ⟨false, rfl, (Below.same' hB), H⟩
  ·replace H := ifn h2 H
   refine GoR.op ((fun w => opB (op_gtr rfl rfl w) (decide_eq_false h2)) _) rfl rfl ?_
   refine GoR.op ((op_pickF rfl rfl rfl) _) rfl rfl ?_
   refine GoR.op ((op_move rfl) _) rfl rfl ?_
   refine GoR.op ((op_move rfl) _) rfl rfl ?_
   refine GoR.op ((op_lenS Try.underlying9 rfl) _) rfl rfl ?_
   replace H := H hs_w_
   by_cases h3 : (2048 : Int) < (w_.length : Int)
   ·replace H := ifp h3 H
    refine GoR.op ((fun w => opB (op_gtr rfl rfl w) (decide_eq_true h3)) _) rfl rfl ?_
    refine GoR.op ((op_pickF rfl rfl rfl) _) rfl rfl ?_
    refine GoR.nil ?_
    refine Go1.condT rfl rfl ?_
    refine Go1.seq ?_
    refine Go1.region ?_
    refine GoR.op ((op_assign rfl) _) rfl rfl ?_
    refine GoR.nil ?_
    refine Go1.ret1 Try.func54 rfl ?_
    exact ⟨false, rfl, (Below.same' hB), H⟩
   ·replace H := ifn h3 H
    refine GoR.op ((fun w => opB (op_gtr rfl rfl w) (decide_eq_false h3)) _) rfl rfl ?_
    refine GoR.op ((op_pickF rfl rfl rfl) _) rfl rfl ?_
    refine GoR.nil ?_
    refine Go1.condF rfl rfl ?_
    refine Go1.skip ?_
    refine Go1.seq ?_
    refine Go1.seq ?_
    refine Go1.region ?_
    refine GoR.op ((op_move rfl) _) rfl rfl ?_
    refine GoR.op ((op_lenS Try.underlying9 rfl) _) rfl rfl ?_
    refine GoR.op ((op_move rfl) _) rfl rfl ?_
    refine GoR.nil ?_
    refine Go1.block ?_
    refine Go1.loopW (S := Nat) (fun s σ w => agrees σ [(0, .string (gstr w_)), (1, .int .i64 letters), (18, .int .i64 (w_.length : Int)), (19, .int .i64 (s : Int))] ∧ Owns w0.heap.size w [] A ∧ Below w0.heap.size w0 w) H ⟨⟨rfl, rfl, rfl, rfl, trivial⟩, hO, hB⟩ ?_
    rintro X1 k1_5 H hX1 σ w4 ⟨hag, hO, hB⟩
    refine Go1.keep [(0, .string (gstr w_)), (1, .int .i64 letters), (18, .int .i64 (w_.length : Int)), (19, .int .i64 (k1_5 : Int))] hag ?_
    refine Go1.seq ?_
    refine Go1.region ?_
    by_cases h6 : (k1_5 : Int) < (w_.length : Int)
    ·replace H := ifp h6 H
     refine GoR.op ((fun w => opB (op_lss rfl rfl w) (decide_eq_true h6)) _) rfl rfl ?_
     refine GoR.nil ?_
     refine Go1.seq ?_
     refine Go1.condT rfl rfl ?_
     refine Go1.skip ?_
     refine Go1.seq ?_
     refine Go1.block ?_
     refine Go1.seq ?_
     refine Go1.region ?_
     refine GoR.op ((op_move rfl) _) rfl rfl ?_
     refine GoR.op ((op_assign rfl) _) rfl rfl ?_
     refine GoR.nil ?_
     refine Go1.seq ?_
     refine Go1.region ?_
     refine GoR.op ((op_move rfl) _) rfl rfl ?_
     refine GoR.op ((op_move rfl) _) rfl rfl ?_
     obtain ⟨h7, H⟩ := H
     obtain ⟨h8, H⟩ := H
     refine GoR.op ((op_indexS Try.underlying9 rfl rfl h7 h8) _) rfl rfl ?_
     by_cases h9 : ((ix w_ (k1_5 : Int)).toNat : Int) < (97 : Int)
     ·replace H := ifp h9 H
      refine GoR.op ((fun w => opB (op_lss rfl rfl w) (decide_eq_true h9)) _) rfl rfl ?_
      refine GoR.op ((op_move rfl) _) rfl rfl ?_
      refine GoR.pass rfl rfl ?_
      refine GoR.pass rfl rfl ?_
      refine GoR.pass rfl rfl ?_
      refine GoR.pass rfl rfl ?_
      refine GoR.pass rfl rfl ?_
      refine GoR.pass rfl rfl ?_
      refine GoR.pass rfl rfl ?_
      refine GoR.op ((op_pickT rfl rfl rfl) _) rfl rfl ?_
      refine GoR.nil ?_
      refine Go1.condT rfl rfl ?_
      refine Go1.seq ?_
      refine Go1.region ?_
      refine GoR.op ((op_assign rfl) _) rfl rfl ?_
      refine GoR.nil ?_
      refine Go1.ret1 Try.func54 rfl ?_
      exact ⟨false, rfl, (Below.same' hB), H⟩
     ·replace H := ifn h9 H
      refine GoR.op ((fun w => opB (op_lss rfl rfl w) (decide_eq_false h9)) _) rfl rfl ?_
      refine GoR.op ((op_move rfl) _) rfl rfl ?_
      refine GoR.op ((op_move rfl) _) rfl rfl ?_
      refine GoR.op ((op_move rfl) _) rfl rfl ?_
      obtain ⟨h10, H⟩ := H
      obtain ⟨h11, H⟩ := H
      refine GoR.op ((op_indexS Try.underlying9 rfl rfl h10 h11) _) rfl rfl ?_
      refine GoR.op ((op_sub rfl rfl rfl) _) rfl rfl ?_
      refine GoR.op ((op_conv Try.underlying5 Try.underlying3 rfl rfl) _) rfl rfl ?_
      refine GoR.op ((op_move rfl) _) rfl rfl ?_
      by_cases h12 : letters ≤ (IntKind.i64.wrap (IntKind.u8.wrap (((ix w_ (k1_5 : Int)).toNat : Int) - (97 : Int))))
      ·replace H := ifp h12 H
       refine GoR.op ((fun w => opB (op_geq rfl rfl w) (decide_eq_true h12)) _) rfl rfl ?_
       refine GoR.op ((op_pickF rfl rfl rfl) _) rfl rfl ?_
       refine GoR.nil ?_
       refine Go1.condT rfl rfl ?_
       refine Go1.seq ?_
       refine Go1.region ?_
       refine GoR.op ((op_assign rfl) _) rfl rfl ?_
       refine GoR.nil ?_
       refine Go1.ret1 Try.func54 rfl ?_
       exact ⟨false, rfl, (Below.same' hB), H⟩
      ·replace H := ifn h12 H
       refine GoR.op ((fun w => opB (op_geq rfl rfl w) (decide_eq_false h12)) _) rfl rfl ?_
       refine GoR.op ((op_pickF rfl rfl rfl) _) rfl rfl ?_
       refine GoR.nil ?_
       refine Go1.condF rfl rfl ?_
       refine Go1.skip ?_
       refine Go1.inBlock ?_
       refine Go1.region ?_
       refine GoR.op ((op_add rfl rfl (wrap_i64 (by have := h6; have := hs_w_; unfold mx at this; exact ⟨by omega, by omega⟩))) _) rfl rfl ?_
       refine GoR.op ((op_move rfl) _) rfl rfl ?_
       refine GoR.nil ?_
       exact hX1 _ H _ _ ⟨⟨rfl, rfl, rfl, rfl, trivial⟩, hO, hB⟩
    ·replace H := ifn h6 H
     refine GoR.op ((fun w => opB (op_lss rfl rfl w) (decide_eq_false h6)) _) rfl rfl ?_
     refine GoR.nil ?_
     refine Go1.seq ?_
     refine Go1.condF rfl rfl ?_
     refine Go1.exit rfl ?_
     refine Go1.seq ?_
     refine Go1.region ?_
     refine GoR.op ((op_assign rfl) _) rfl rfl ?_
     refine GoR.nil ?_
     refine Go1.ret1 Try.func54 rfl ?_
     exact ⟨true, rfl, (Below.same' hB), H⟩
theorem body29 : Body Try.prog 29 := ⟨Try.f29, Try.func29, rfl, by kernel_rfl⟩
theorem walk_trans_OfWord {A : List Nat} {w0 : World} {p_gens : Option Addr} {c_gens : Nat} {gens : List (List Int)} {w_ : Str} (hA : ∀ b ∈ A, b < w0.heap.size) (h_gens : ISl (Rp.sl (Rp.int .i64)) A w0 p_gens c_gens gens) (hs_w_ : w_.length ≤ mx) {K : List Int → Prop} (H : trans_OfWord gens w_ K) :
    CallsV Try.prog 29 #[.slice p_gens gens.length c_gens, .string (gstr w_)] w0 (fun v w' => ∃ (r0 : List Int), ∃ (p_r0 : Option Addr), ∃ (c_r0 : Nat), v = .slice p_r0 r0.length c_r0 ∧ Same w0 w' ∧ ISl (Rp.int .i64) A w' p_r0 c_r0 r0 ∧ K r0) := by
 refine CallsV.of (l := [.slice p_gens gens.length c_gens, .string (gstr w_)]) Try.func29 rfl Try.ntmps29 rfl ?_
 have hO := Owns.start hA
 have hB := Below.refl w0.heap.size w0
 unfold trans_OfWord at H
 replace h_gens := h_gens.ch (Ch.start A w0)
 refine Go1.seq ?_
 refine Go1.region ?_
 refine GoR.op ((op_assign rfl) _) rfl rfl ?_
 refine GoR.nil ?_
 refine Go1.seq ?_
 refine Go1.seq ?_
 refine Go1.region ?_
 refine GoR.op ((op_move rfl) _) rfl rfl ?_
 refine GoR.op ((op_len Try.underlying35 rfl) _) rfl rfl ?_
 replace H := H h_gens.bd
 by_cases h1 : (gens.length : Int) = (0 : Int)
 ·replace H := ifp h1 H
  refine GoR.op ((fun w => opB (op_eql rfl rfl w) (decide_eq_true h1)) _) rfl rfl ?_
  refine GoR.op ((op_move rfl) _) rfl rfl ?_
  refine GoR.pass rfl rfl ?_
  refine GoR.pass rfl rfl ?_
  refine GoR.pass rfl rfl ?_
  refine GoR.pass rfl rfl ?_
  refine GoR.pass rfl rfl ?_
  refine GoR.op ((op_pickT rfl rfl rfl) _) rfl rfl ?_
  refine GoR.nil ?_
  refine Go1.condT rfl rfl ?_
  refine Go1.seq ?_
  refine Go1.region ?_
  refine GoR.op ((op_assign rfl) _) rfl rfl ?_
  refine GoR.nil ?_
  refine Go1.ret1 Try.func29 rfl ?_
  exact ⟨([] : List Int), none, 0, rfl, (Below.same' hB), (ISl.null _ _ _), H⟩
 ·replace H := ifn h1 H
  refine GoR.op ((fun w => opB (op_eql rfl rfl w) (decide_eq_false h1)) _) rfl rfl ?_
  refine GoR.op ((op_move rfl) _) rfl rfl ?_
  refine GoR.op ((op_move rfl) _) rfl rfl ?_
  refine GoR.op ((op_move rfl) _) rfl rfl ?_
  refine GoR.op ((op_len Try.underlying35 rfl) _) rfl rfl ?_
  refine GoR.call (op_call body54 rfl (walk_word_Valid hO.lt hs_w_ H)) rfl rfl ?_
  rintro v5 w3 ⟨r2, rfl, hs4, H⟩
  have hst6 := Stp.same hO hs4
  replace hO := hst6.own
  replace h_gens := h_gens.ch hst6.ch
  replace hB := hB.trans hst6.bel
  cases r2
  ·replace H := ifn Bool.false_ne_true H
   refine GoR.op ((op_not rfl) _) rfl rfl ?_
   refine GoR.op ((op_pickF rfl rfl rfl) _) rfl rfl ?_
   refine GoR.nil ?_
   refine Go1.condT rfl rfl ?_
   refine Go1.seq ?_
   refine Go1.region ?_
   refine GoR.op ((op_assign rfl) _) rfl rfl ?_
   refine GoR.nil ?_
   refine Go1.ret1 Try.func29 rfl ?_
   exact ⟨([] : List Int), none, 0, rfl, (Below.same' hB), (ISl.null _ _ _), H⟩
  ·replace H := ifp rfl H
   refine GoR.op ((op_not rfl) _) rfl rfl ?_
   refine GoR.op ((op_pickF rfl rfl rfl) _) rfl rfl ?_
   refine GoR.nil ?_
   refine Go1.condF rfl rfl ?_
   refine Go1.skip ?_
   refine Go1.seq ?_
   refine Go1.seq ?_
   refine Go1.region ?_
   refine GoR.op ((op_move rfl) _) rfl rfl ?_
   refine GoR.op ((op_len Try.underlying35 rfl) _) rfl rfl ?_
   refine GoR.op ((op_move rfl) _) rfl rfl ?_
   refine GoR.nil ?_
   refine Go1.block ?_
   refine Go1.loopW (S := Nat) (fun s σ w => agrees σ [(0, .slice p_gens gens.length c_gens), (1, .string (gstr w_)), (20, .slice p_gens gens.length c_gens), (21, .int .i64 (gens.length : Int)), (22, .int .i64 (s : Int))] ∧ Owns w0.heap.size w [] A ∧ ISl (Rp.sl (Rp.int .i64)) (bl [] ++ A) w p_gens c_gens gens ∧ Below w0.heap.size w0 w) H ⟨⟨rfl, rfl, rfl, rfl, rfl, trivial⟩, hO, h_gens, hB⟩ ?_
   rintro X1 k1_8 H hX1 σ w7 ⟨hag, hO, h_gens, hB⟩
   refine Go1.keep [(0, .slice p_gens gens.length c_gens), (1, .string (gstr w_)), (20, .slice p_gens gens.length c_gens), (21, .int .i64 (gens.length : Int)), (22, .int .i64 (k1_8 : Int))] hag ?_
   refine Go1.seq ?_
   refine Go1.region ?_
   by_cases h9 : (k1_8 : Int) < (gens.length : Int)
   ·replace H := ifp h9 H
    refine GoR.op ((fun w => opB (op_lss rfl rfl w) (decide_eq_true h9)) _) rfl rfl ?_
    refine GoR.nil ?_
    refine Go1.seq ?_
    refine Go1.condT rfl rfl ?_
    refine Go1.skip ?_
    refine Go1.seq ?_
    refine Go1.block ?_
    refine Go1.seq ?_
    refine Go1.region ?_
    obtain ⟨h10, H⟩ := H
    obtain ⟨h11, H⟩ := H
    refine GoR.op ((op_index Try.underlying35 ti22 rfl rfl h10 h11 (h_gens.some_ h10 h11)) _) rfl rfl ?_
    obtain ⟨p12, c13, hi14, hl15⟩ := ldSl h_gens h10 h11
    refine GoR.op ((hl15 Try.underlying22 rfl rfl) _ (Same.refl _)) rfl rfl ?_
    refine GoR.op ((op_assign rfl) _) rfl rfl ?_
    refine GoR.nil ?_
    refine Go1.seq ?_
    refine Go1.region ?_
    refine GoR.op ((op_move rfl) _) rfl rfl ?_
    refine GoR.op ((op_len Try.underlying22 rfl) _) rfl rfl ?_
    replace H := H hi14.bd
    refine GoR.op ((op_move rfl) _) rfl rfl ?_
    obtain ⟨h16, H⟩ := H
    obtain ⟨h17, H⟩ := H
    refine GoR.op ((op_index Try.underlying35 ti22 rfl rfl h16 h17 (h_gens.some_ h16 h17)) _) rfl rfl ?_
    obtain ⟨p18, c19, hi20, hl21⟩ := ldSl h_gens h16 h17
    refine GoR.op ((hl21 Try.underlying22 rfl rfl) _ (Same.refl _)) rfl rfl ?_
    refine GoR.op ((op_len Try.underlying22 rfl) _) rfl rfl ?_
    replace H := H hi20.bd
    by_cases h22 : ((ix gens (k1_8 : Int)).length : Int) = ((ix gens (0 : Int)).length : Int)
    ·replace H := ifp h22 H
     refine GoR.op ((fun w => opB (op_neq rfl rfl w) (ndT h22)) _) rfl rfl ?_
     refine GoR.op ((op_move rfl) _) rfl rfl ?_
     refine GoR.op ((op_move rfl) _) rfl rfl ?_
     refine GoR.call (op_call body21 rfl (walk_trans_Valid hO.lt hi14 H)) rfl rfl ?_
     rintro v26 w24 ⟨r23, rfl, hs25, H⟩
     have hst27 := Stp.same hO hs25
     replace hO := hst27.own
     replace h_gens := h_gens.ch hst27.ch
     replace hi14 := hi14.ch hst27.ch
     replace hi20 := hi20.ch hst27.ch
     replace hB := hB.trans hst27.bel
     cases r23
     ·replace H := ifn Bool.false_ne_true H
      refine GoR.op ((op_not rfl) _) rfl rfl ?_
      refine GoR.op ((op_pickF rfl rfl rfl) _) rfl rfl ?_
      refine GoR.nil ?_
      refine Go1.condT rfl rfl ?_
      refine Go1.seq ?_
      refine Go1.region ?_
      refine GoR.op ((op_assign rfl) _) rfl rfl ?_
      refine GoR.nil ?_
      refine Go1.ret1 Try.func29 rfl ?_
      exact ⟨([] : List Int), none, 0, rfl, (Below.same' hB), (ISl.null _ _ _), H⟩
     ·replace H := ifp rfl H
      refine GoR.op ((op_not rfl) _) rfl rfl ?_
      refine GoR.op ((op_pickF rfl rfl rfl) _) rfl rfl ?_
      refine GoR.nil ?_
      refine Go1.condF rfl rfl ?_
      refine Go1.skip ?_
      refine Go1.inBlock ?_
      refine Go1.region ?_
      refine GoR.op ((op_add rfl rfl (wrap_i64 (by have := h9; have := h_gens.bd; unfold mx at this; exact ⟨by omega, by omega⟩))) _) rfl rfl ?_
      refine GoR.op ((op_move rfl) _) rfl rfl ?_
      refine GoR.nil ?_
      exact hX1 _ H _ _ ⟨⟨rfl, rfl, rfl, rfl, rfl, trivial⟩, hO, h_gens, hB⟩
    ·replace H := ifn h22 H
     refine GoR.op ((fun w => opB (op_neq rfl rfl w) (ndF h22)) _) rfl rfl ?_
     refine GoR.op ((op_move rfl) _) rfl rfl ?_
     refine GoR.pass rfl rfl ?_
     refine GoR.pass rfl rfl ?_
     refine GoR.pass rfl rfl ?_
     refine GoR.op ((op_pickT rfl rfl rfl) _) rfl rfl ?_
     refine GoR.nil ?_
     refine Go1.condT rfl rfl ?_
     refine Go1.seq ?_
     refine Go1.region ?_
     refine GoR.op ((op_assign rfl) _) rfl rfl ?_
     refine GoR.nil ?_
     refine Go1.ret1 Try.func29 rfl ?_
     exact ⟨([] : List Int), none, 0, rfl, (Below.same' hB), (ISl.null _ _ _), H⟩
   ·replace H := ifn h9 H
    refine GoR.op ((fun w => opB (op_lss rfl rfl w) (decide_eq_false h9)) _) rfl rfl ?_
    refine GoR.nil ?_
    refine Go1.seq ?_
    refine Go1.condF rfl rfl ?_
    refine Go1.exit rfl ?_
    refine Go1.seq ?_
    refine Go1.region ?_
    refine GoR.op ((op_move rfl) _) rfl rfl ?_
    obtain ⟨h28, H⟩ := H
    obtain ⟨h29, H⟩ := H
    refine GoR.op ((op_index Try.underlying35 ti22 rfl rfl h28 h29 (h_gens.some_ h28 h29)) _) rfl rfl ?_
    obtain ⟨p30, c31, hi32, hl33⟩ := ldSl h_gens h28 h29
    refine GoR.op ((hl33 Try.underlying22 rfl rfl) _ (Same.refl _)) rfl rfl ?_
    refine GoR.op ((op_len Try.underlying22 rfl) _) rfl rfl ?_
    replace H := H hi32.bd
    refine GoR.call (op_call body20 rfl (walk_trans_Identity hO.lt H)) rfl rfl ?_
    rintro v37 w35 ⟨r34, p_r34, c_r34, rfl, hs36, h_r34, H⟩
    have hst38 := Stp.same hO hs36
    replace hO := hst38.own
    replace h_gens := h_gens.ch hst38.ch
    replace hi32 := hi32.ch hst38.ch
    replace hB := hB.trans hst38.bel
    refine GoR.op ((op_assign rfl) _) rfl rfl ?_
    refine GoR.nil ?_
    refine Go1.seq ?_
    refine Go1.seq ?_
    refine Go1.region ?_
    refine GoR.op ((op_move rfl) _) rfl rfl ?_
    obtain ⟨w39, B40, hst41, hs42, hop43⟩ := orange (s := w_) Try.underlying9 hO
    refine GoR.op (hop43 rfl) rfl rfl ?_
    replace hO := hst41.own
    replace h_gens := h_gens.ch hst41.ch
    replace hi32 := hi32.ch hst41.ch
    replace h_r34 := h_r34.ch hst41.ch
    replace hB := hB.trans hst41.bel
    refine GoR.nil ?_
    refine Go1.block ?_
    refine Go1.loopW (S := List Int × Nat) (fun s σ w => ∃ (p47 : Option Addr), ∃ (c48 : Nat), agrees σ [(0, .slice p_gens gens.length c_gens), (7, .slice p47 (s.1).length c48), (45, .pointer (some ⟨B40, 0, none⟩))] ∧ Owns w0.heap.size w [.blk B40 (.stringIter (gstr w_) (s.2))] A ∧ ISl (Rp.sl (Rp.int .i64)) (bl [.blk B40 (.stringIter (gstr w_) (s.2))] ++ A) w p_gens c_gens gens ∧ ISl (Rp.int .i64) (bl [.blk B40 (.stringIter (gstr w_) (s.2))] ++ A) w p47 c48 (s.1) ∧ Below w0.heap.size w0 w) H ⟨p_r34, c_r34, ⟨rfl, rfl, rfl, trivial⟩, hO, h_gens, h_r34, hB⟩ ?_
    rintro X2 ⟨f2_46, i2_50⟩ H hX2 σ w45 ⟨p47, c48, hag, hO, h_gens, hi49, hB⟩
    dsimp only at H
    refine Go1.keep [(0, .slice p_gens gens.length c_gens), (7, .slice p47 f2_46.length c48), (45, .pointer (some ⟨B40, 0, none⟩))] hag ?_
    refine Go1.seq ?_
    refine Go1.region ?_
    by_cases h51 : (i2_50 : Int) < (w_.length : Int)
    ·replace H := ifp h51 H
     obtain ⟨h52, H⟩ := H
     obtain ⟨w53, hst54, hop55⟩ := onext 0 hO rfl h51 h52
     refine GoR.op (hop55 rfl) rfl rfl ?_
     replace hO := hst54.own
     replace h_gens := h_gens.ch hst54.ch
     replace hi49 := hi49.ch hst54.ch
     replace hB := hB.trans hst54.bel
     refine GoR.op ((op_extract rfl rfl) _) rfl rfl ?_
     refine GoR.nil ?_
     refine Go1.seq ?_
     refine Go1.condT rfl rfl ?_
     refine Go1.skip ?_
     refine Go1.block ?_
     refine Go1.seq ?_
     refine Go1.region ?_
     refine GoR.op ((op_extract rfl rfl) _) rfl rfl ?_
     refine GoR.op ((op_assign rfl) _) rfl rfl ?_
     refine GoR.nil ?_
     refine Go1.region ?_
     refine GoR.op ((op_move rfl) _) rfl rfl ?_
     refine GoR.op ((op_move rfl) _) rfl rfl ?_
     refine GoR.op ((op_move rfl) _) rfl rfl ?_
     refine GoR.op ((op_sub rfl rfl rfl) _) rfl rfl ?_
     obtain ⟨h56, H⟩ := H
     obtain ⟨h57, H⟩ := H
     refine GoR.op ((op_index Try.underlying35 ti22 rfl rfl h56 h57 (h_gens.some_ h56 h57)) _) rfl rfl ?_
     obtain ⟨p58, c59, hi60, hl61⟩ := ldSl h_gens h56 h57
     refine GoR.op ((hl61 Try.underlying22 rfl rfl) _ (Same.refl _)) rfl rfl ?_
     refine GoR.call (op_call body15 rfl (walk_trans_Compose hO.lt hi49 hi60 H)) rfl rfl ?_
     rintro v65 w63 ⟨r62, p_r62, c_r62, rfl, hs64, h_r62, H⟩
     have hst66 := Stp.same hO hs64
     replace hO := hst66.own
     replace h_gens := h_gens.ch hst66.ch
     replace hi49 := hi49.ch hst66.ch
     replace hi60 := hi60.ch hst66.ch
     replace hB := hB.trans hst66.bel
     refine GoR.op ((op_assign rfl) _) rfl rfl ?_
     refine GoR.nil ?_
     refine Go1.inBlock ?_
     exact hX2 _ H _ _ ⟨p_r62, c_r62, ⟨rfl, rfl, rfl, trivial⟩, hO, h_gens, h_r62, hB⟩
    ·replace H := ifn h51 H
     refine GoR.op (onextEnd 0 hO rfl h51 rfl) rfl rfl ?_
     refine GoR.op ((op_extract rfl rfl) _) rfl rfl ?_
     refine GoR.nil ?_
     refine Go1.seq ?_
     refine Go1.condF rfl rfl ?_
     refine Go1.exit rfl ?_
     refine Go1.seq ?_
     refine Go1.region ?_
     refine GoR.op ((op_move rfl) _) rfl rfl ?_
     refine GoR.op ((op_assign rfl) _) rfl rfl ?_
     refine GoR.nil ?_
     refine Go1.ret1 Try.func29 rfl ?_
     exact ⟨f2_46, p47, c48, rfl, (Below.same' hB), (hi49.ch (Ch.weak _ _ _)), H⟩
theorem body30 : Body Try.prog 30 := ⟨Try.f30, Try.func30, rfl, by kernel_rfl⟩
theorem walk_ref11_MayGens {A : List Nat} {w0 : World} {p_gens : Option Addr} {c_gens : Nat} {gens : List (List Int)} (hA : ∀ b ∈ A, b < w0.heap.size) (h_gens : ISl (Rp.sl (Rp.int .i64)) A w0 p_gens c_gens gens) {K : Bool → Prop} (H : ref11_MayGens gens K) :
    CallsV Try.prog 30 #[.slice p_gens gens.length c_gens] w0 (fun v w' => ∃ (r0 : Bool), v = .bool r0 ∧ Same w0 w' ∧ K r0) := by
 refine CallsV.of (l := [.slice p_gens gens.length c_gens]) Try.func30 rfl Try.ntmps30 rfl ?_
 have hO := Owns.start hA
 have hB := Below.refl w0.heap.size w0
 unfold ref11_MayGens at H
 replace h_gens := h_gens.ch (Ch.start A w0)
 refine Go1.seq ?_
 refine Go1.region ?_
 refine GoR.op ((op_assign rfl) _) rfl rfl ?_
 refine GoR.nil ?_
 refine Go1.seq ?_
 refine Go1.seq ?_
 refine Go1.region ?_
 refine GoR.op ((op_move rfl) _) rfl rfl ?_
 refine GoR.op ((op_len Try.underlying35 rfl) _) rfl rfl ?_
 replace H := H h_gens.bd
 by_cases h1 : (gens.length : Int) < (1 : Int)
 ·replace H := ifp h1 H
  refine GoR.op ((fun w => opB (op_lss rfl rfl w) (decide_eq_true h1)) _) rfl rfl ?_
  refine GoR.op ((op_move rfl) _) rfl rfl ?_
  refine GoR.pass rfl rfl ?_
  refine GoR.pass rfl rfl ?_
  refine GoR.pass rfl rfl ?_
  refine GoR.op ((op_pickT rfl rfl rfl) _) rfl rfl ?_
  refine GoR.nil ?_
  refine Go1.condT rfl rfl ?_
  refine Go1.seq ?_
  refine Go1.region ?_
  refine GoR.op ((op_assign rfl) _) rfl rfl ?_
  refine GoR.nil ?_
  refine Go1.ret1 Try.func30 rfl ?_
  exact ⟨false, rfl, (Below.same' hB), H⟩
 ·replace H := ifn h1 H
  refine GoR.op ((fun w => opB (op_lss rfl rfl w) (decide_eq_false h1)) _) rfl rfl ?_
  refine GoR.op ((op_move rfl) _) rfl rfl ?_
  refine GoR.op ((op_move rfl) _) rfl rfl ?_
  refine GoR.op ((op_len Try.underlying35 rfl) _) rfl rfl ?_
  by_cases h2 : (6 : Int) < (gens.length : Int)
  ·replace H := ifp h2 H
   refine GoR.op ((fun w => opB (op_gtr rfl rfl w) (decide_eq_true h2)) _) rfl rfl ?_
   refine GoR.op ((op_pickF rfl rfl rfl) _) rfl rfl ?_
   refine GoR.nil ?_
   refine Go1.condT rfl rfl ?_
   refine Go1.seq ?_
   refine Go1.region ?_
   refine GoR.op ((op_assign rfl) _) rfl rfl ?_
   refine GoR.nil ?_
   refine Go1.ret1 Try.func30 rfl ?_
   exact ⟨false, rfl, (Below.same' hB), H⟩
  ·replace H := ifn h2 H
   refine GoR.op ((fun w => opB (op_gtr rfl rfl w) (decide_eq_false h2)) _) rfl rfl ?_
   refine GoR.op ((op_pickF rfl rfl rfl) _) rfl rfl ?_
   refine GoR.nil ?_
   refine Go1.condF rfl rfl ?_
   refine Go1.skip ?_
   refine Go1.seq ?_
   refine Go1.seq ?_
   refine Go1.region ?_
   refine GoR.op ((op_move rfl) _) rfl rfl ?_
   refine GoR.op ((op_len Try.underlying35 rfl) _) rfl rfl ?_
   refine GoR.op ((op_move rfl) _) rfl rfl ?_
   refine GoR.nil ?_
   refine Go1.block ?_
   refine Go1.loopW (S := Nat) (fun s σ w => agrees σ [(0, .slice p_gens gens.length c_gens), (13, .slice p_gens gens.length c_gens), (14, .int .i64 (gens.length : Int)), (15, .int .i64 (s : Int))] ∧ Owns w0.heap.size w [] A ∧ ISl (Rp.sl (Rp.int .i64)) (bl [] ++ A) w p_gens c_gens gens ∧ Below w0.heap.size w0 w) H ⟨⟨rfl, rfl, rfl, rfl, trivial⟩, hO, h_gens, hB⟩ ?_
   rintro X1 k1_4 H hX1 σ w3 ⟨hag, hO, h_gens, hB⟩
   refine Go1.keep [(0, .slice p_gens gens.length c_gens), (13, .slice p_gens gens.length c_gens), (14, .int .i64 (gens.length : Int)), (15, .int .i64 (k1_4 : Int))] hag ?_
   refine Go1.seq ?_
   refine Go1.region ?_
   by_cases h5 : (k1_4 : Int) < (gens.length : Int)
   ·replace H := ifp h5 H
    refine GoR.op ((fun w => opB (op_lss rfl rfl w) (decide_eq_true h5)) _) rfl rfl ?_
    refine GoR.nil ?_
    refine Go1.seq ?_
    refine Go1.condT rfl rfl ?_
    refine Go1.skip ?_
    refine Go1.seq ?_
    refine Go1.block ?_
    refine Go1.seq ?_
    refine Go1.region ?_
    obtain ⟨h6, H⟩ := H
    obtain ⟨h7, H⟩ := H
    refine GoR.op ((op_index Try.underlying35 ti22 rfl rfl h6 h7 (h_gens.some_ h6 h7)) _) rfl rfl ?_
    obtain ⟨p8, c9, hi10, hl11⟩ := ldSl h_gens h6 h7
    refine GoR.op ((hl11 Try.underlying22 rfl rfl) _ (Same.refl _)) rfl rfl ?_
    refine GoR.op ((op_assign rfl) _) rfl rfl ?_
    refine GoR.nil ?_
    refine Go1.seq ?_
    refine Go1.region ?_
    refine GoR.op ((op_move rfl) _) rfl rfl ?_
    refine GoR.call (op_call body22 rfl (walk_ref11_Valid hO.lt hi10 H)) rfl rfl ?_
    rintro v15 w13 ⟨r12, rfl, hs14, H⟩
    have hst16 := Stp.same hO hs14
    replace hO := hst16.own
    replace h_gens := h_gens.ch hst16.ch
    replace hi10 := hi10.ch hst16.ch
    replace hB := hB.trans hst16.bel
    cases r12
    ·replace H := ifn Bool.false_ne_true H
     refine GoR.op ((op_not rfl) _) rfl rfl ?_
     refine GoR.op ((op_move rfl) _) rfl rfl ?_
     refine GoR.pass rfl rfl ?_
     refine GoR.pass rfl rfl ?_
     refine GoR.pass rfl rfl ?_
     refine GoR.pass rfl rfl ?_
     refine GoR.pass rfl rfl ?_
     refine GoR.pass rfl rfl ?_
     refine GoR.pass rfl rfl ?_
     refine GoR.op ((op_pickT rfl rfl rfl) _) rfl rfl ?_
     refine GoR.nil ?_
     refine Go1.condT rfl rfl ?_
     refine Go1.seq ?_
     refine Go1.region ?_
     refine GoR.op ((op_assign rfl) _) rfl rfl ?_
     refine GoR.nil ?_
     refine Go1.ret1 Try.func30 rfl ?_
     exact ⟨false, rfl, (Below.same' hB), H⟩
    ·replace H := ifp rfl H
     refine GoR.op ((op_not rfl) _) rfl rfl ?_
     refine GoR.op ((op_move rfl) _) rfl rfl ?_
     refine GoR.op ((op_move rfl) _) rfl rfl ?_
     refine GoR.op ((op_len Try.underlying22 rfl) _) rfl rfl ?_
     replace H := H hi10.bd
     refine GoR.op ((op_move rfl) _) rfl rfl ?_
     obtain ⟨h17, H⟩ := H
     obtain ⟨h18, H⟩ := H
     refine GoR.op ((op_index Try.underlying35 ti22 rfl rfl h17 h18 (h_gens.some_ h17 h18)) _) rfl rfl ?_
     obtain ⟨p19, c20, hi21, hl22⟩ := ldSl h_gens h17 h18
     refine GoR.op ((hl22 Try.underlying22 rfl rfl) _ (Same.refl _)) rfl rfl ?_
     refine GoR.op ((op_len Try.underlying22 rfl) _) rfl rfl ?_
     replace H := H hi21.bd
     by_cases h23 : ((ix gens (k1_4 : Int)).length : Int) = ((ix gens (0 : Int)).length : Int)
     ·replace H := ifp h23 H
      refine GoR.op ((fun w => opB (op_neq rfl rfl w) (ndT h23)) _) rfl rfl ?_
      refine GoR.op ((op_pickF rfl rfl rfl) _) rfl rfl ?_
      refine GoR.nil ?_
      refine Go1.condF rfl rfl ?_
      refine Go1.skip ?_
      refine Go1.inBlock ?_
      refine Go1.region ?_
      refine GoR.op ((op_add rfl rfl (wrap_i64 (by have := h5; have := h_gens.bd; unfold mx at this; exact ⟨by omega, by omega⟩))) _) rfl rfl ?_
      refine GoR.op ((op_move rfl) _) rfl rfl ?_
      refine GoR.nil ?_
      exact hX1 _ H _ _ ⟨⟨rfl, rfl, rfl, rfl, trivial⟩, hO, h_gens, hB⟩
     ·replace H := ifn h23 H
      refine GoR.op ((fun w => opB (op_neq rfl rfl w) (ndF h23)) _) rfl rfl ?_
      refine GoR.op ((op_pickF rfl rfl rfl) _) rfl rfl ?_
      refine GoR.nil ?_
      refine Go1.condT rfl rfl ?_
      refine Go1.seq ?_
      refine Go1.region ?_
      refine GoR.op ((op_assign rfl) _) rfl rfl ?_
      refine GoR.nil ?_
      refine Go1.ret1 Try.func30 rfl ?_
      exact ⟨false, rfl, (Below.same' hB), H⟩
   ·replace H := ifn h5 H
    refine GoR.op ((fun w => opB (op_lss rfl rfl w) (decide_eq_false h5)) _) rfl rfl ?_
    refine GoR.nil ?_
    refine Go1.seq ?_
    refine Go1.condF rfl rfl ?_
    refine Go1.exit rfl ?_
    refine Go1.seq ?_
    refine Go1.region ?_
    refine GoR.op ((op_assign rfl) _) rfl rfl ?_
    refine GoR.nil ?_
    refine Go1.ret1 Try.func30 rfl ?_
    exact ⟨true, rfl, (Below.same' hB), H⟩
theorem body55 : Body Try.prog 55 := ⟨Try.f55, Try.func55, rfl, by kernel_rfl⟩
theorem walk_ref01_MayLetters {A : List Nat} {w0 : World} {letters : Int} (hA : ∀ b ∈ A, b < w0.heap.size) {K : Bool → Prop} (H : ref01_MayLetters letters K) :
    CallsV Try.prog 55 #[.int .i64 letters] w0 (fun v w' => ∃ (r0 : Bool), v = .bool r0 ∧ Same w0 w' ∧ K r0) := by
 refine CallsV.of (l := [.int .i64 letters]) Try.func55 rfl Try.ntmps55 rfl ?_
 have hO := Owns.start hA
 have hB := Below.refl w0.heap.size w0
 unfold ref01_MayLetters at H
 refine Go1.seq ?_
 refine Go1.region ?_
 refine GoR.op ((op_assign rfl) _) rfl rfl ?_
 refine GoR.nil ?_
 refine Go1.seq ?_
 refine Go1.region ?_
 refine GoR.op ((op_move rfl) _) rfl rfl ?_
 by_cases h1 : (1 : Int) ≤ letters
 ·replace H := ifp h1 H
  refine GoR.op ((fun w => opB (op_geq rfl rfl w) (decide_eq_true h1)) _) rfl rfl ?_
  refine GoR.op ((op_move rfl) _) rfl rfl ?_
  refine GoR.op ((op_move rfl) _) rfl rfl ?_
  by_cases h2 : letters ≤ (6 : Int)
  ·replace H := ifp h2 H
   refine GoR.op ((fun w => opB (op_leq rfl rfl w) (decide_eq_true h2)) _) rfl rfl ?_
   refine GoR.op ((op_pickT rfl rfl rfl) _) rfl rfl ?_
   refine GoR.op ((op_assign rfl) _) rfl rfl ?_
   refine GoR.nil ?_
   refine Go1.ret1 Try.func55 rfl ?_
   exact ⟨true, rfl, (Below.same' hB), H⟩
  ·replace H := ifn h2 H
   refine GoR.op ((fun w => opB (op_leq rfl rfl w) (decide_eq_false h2)) _) rfl rfl ?_
   refine GoR.op ((op_pickT rfl rfl rfl) _) rfl rfl ?_
   refine GoR.op ((op_assign rfl) _) rfl rfl ?_
   refine GoR.nil ?_
   refine Go1.ret1 Try.func55 rfl ?_
   exact ⟨false, rfl, (Below.same' hB), H⟩
 ·replace H := ifn h1 H
  refine GoR.op ((fun w => opB (op_geq rfl rfl w) (decide_eq_false h1)) _) rfl rfl ?_
  refine GoR.op ((op_move rfl) _) rfl rfl ?_
  refine GoR.pass rfl rfl ?_
  refine GoR.pass rfl rfl ?_
  refine GoR.op ((op_pickF rfl rfl rfl) _) rfl rfl ?_
  refine GoR.op ((op_assign rfl) _) rfl rfl ?_
  refine GoR.nil ?_
  refine Go1.ret1 Try.func55 rfl ?_
  exact ⟨false, rfl, (Below.same' hB), H⟩
theorem body31 : Body Try.prog 31 := ⟨Try.f31, Try.func31, rfl, by kernel_rfl⟩
theorem walk_ref01_Valid {A : List Nat} {w0 : World} {w_ : Str} {letters : Int} (hA : ∀ b ∈ A, b < w0.heap.size) (hs_w_ : w_.length ≤ mx) {K : Bool → Prop} (H : ref01_Valid w_ letters K) :
    CallsV Try.prog 31 #[.string (gstr w_), .int .i64 letters] w0 (fun v w' => ∃ (r0 : Bool), v = .bool r0 ∧ Same w0 w' ∧ K r0) := by
 refine CallsV.of (l := [.string (gstr w_), .int .i64 letters]) Try.func31 rfl Try.ntmps31 rfl ?_
 have hO := Owns.start hA
 have hB := Below.refl w0.heap.size w0
 unfold ref01_Valid at H
 refine Go1.seq ?_
 refine Go1.region ?_
 refine GoR.op ((op_assign rfl) _) rfl rfl ?_
 refine GoR.nil ?_
 refine Go1.seq ?_
 refine Go1.seq ?_
 refine Go1.region ?_
 refine GoR.op ((op_move rfl) _) rfl rfl ?_
 refine GoR.call (op_call body55 rfl (walk_ref01_MayLetters hO.lt H)) rfl rfl ?_
 rintro v4 w2 ⟨r1, rfl, hs3, H⟩
 have hst5 := Stp.same hO hs3
 replace hO := hst5.own
 replace hB := hB.trans hst5.bel
 cases r1
 ·replace H := ifn Bool.false_ne_true H
  refine GoR.op ((op_not rfl) _) rfl rfl ?_
  refine GoR.op ((op_move rfl) _) rfl rfl ?_
  refine GoR.pass rfl rfl ?_
  refine GoR.pass rfl rfl ?_
  refine GoR.pass rfl rfl ?_
  refine GoR.op ((op_pickT rfl rfl rfl) _) rfl rfl ?_
  refine GoR.nil ?_
  refine Go1.condT rfl rfl ?_
  refine Go1.seq ?_
  refine Go1.region ?_
  refine GoR.op ((op_assign rfl) _) rfl rfl ?_
  refine GoR.nil ?_
  refine Go1.ret1 Try.func31 rfl ?_
  exact ⟨false, rfl, (Below.same' hB), H⟩
 ·replace H := ifp rfl H
  refine GoR.op ((op_not rfl) _) rfl rfl ?_
  refine GoR.op ((op_move rfl) _) rfl rfl ?_
  refine GoR.op ((op_move rfl) _) rfl rfl ?_
  refine GoR.op ((op_lenS Try.underlying9 rfl) _) rfl rfl ?_
  replace H := H hs_w_
  by_cases h6 : (2048 : Int) < (w_.length : Int)
  ·replace H := ifp h6 H
   refine GoR.op ((fun w => opB (op_gtr rfl rfl w) (decide_eq_true h6)) _) rfl rfl ?_
   refine GoR.op ((op_pickF rfl rfl rfl) _) rfl rfl ?_
   refine GoR.nil ?_
   refine Go1.condT rfl rfl ?_
   refine Go1.seq ?_
   refine Go1.region ?_
   refine GoR.op ((op_assign rfl) _) rfl rfl ?_
   refine GoR.nil ?_
   refine Go1.ret1 Try.func31 rfl ?_
   exact ⟨false, rfl, (Below.same' hB), H⟩
  ·replace H := ifn h6 H
   refine GoR.op ((fun w => opB (op_gtr rfl rfl w) (decide_eq_false h6)) _) rfl rfl ?_
   refine GoR.op ((op_pickF rfl rfl rfl) _) rfl rfl ?_
   refine GoR.nil ?_
   refine Go1.condF rfl rfl ?_
   refine Go1.skip ?_
   refine Go1.seq ?_
   refine Go1.seq ?_
   refine Go1.region ?_
   refine GoR.op ((op_assign rfl) _) rfl rfl ?_
   refine GoR.nil ?_
   refine Go1.block ?_
   refine Go1.loopW (S := Nat) (fun s σ w => agrees σ [(0, .string (gstr w_)), (1, .int .i64 letters), (5, .int .i64 (s : Int))] ∧ Owns w0.heap.size w [] A ∧ Below w0.heap.size w0 w) H ⟨⟨rfl, rfl, rfl, trivial⟩, hO, hB⟩ ?_
   rintro X1 i1_8 H hX1 σ w7 ⟨hag, hO, hB⟩
   refine Go1.keep [(0, .string (gstr w_)), (1, .int .i64 letters), (5, .int .i64 (i1_8 : Int))] hag ?_
   refine Go1.seq ?_
   refine Go1.seq ?_
   refine Go1.region ?_
   refine GoR.op ((op_move rfl) _) rfl rfl ?_
   refine GoR.op ((op_move rfl) _) rfl rfl ?_
   refine GoR.op ((op_lenS Try.underlying9 rfl) _) rfl rfl ?_
   by_cases h9 : (i1_8 : Int) < (w_.length : Int)
   ·replace H := ifp h9 H
    refine GoR.op ((fun w => opB (op_lss rfl rfl w) (decide_eq_true h9)) _) rfl rfl ?_
    refine GoR.nil ?_
    refine Go1.condT rfl rfl ?_
    refine Go1.skip ?_
    refine Go1.seq ?_
    refine Go1.block ?_
    refine Go1.seq ?_
    refine Go1.region ?_
    refine GoR.op ((op_move rfl) _) rfl rfl ?_
    refine GoR.op ((op_move rfl) _) rfl rfl ?_
    obtain ⟨h10, H⟩ := H
    obtain ⟨h11, H⟩ := H
    refine GoR.op ((op_indexS Try.underlying9 rfl rfl h10 h11) _) rfl rfl ?_
    by_cases h12 : ((ix w_ (i1_8 : Int)).toNat : Int) < (97 : Int)
    ·replace H := ifp h12 H
     refine GoR.op ((fun w => opB (op_lss rfl rfl w) (decide_eq_true h12)) _) rfl rfl ?_
     refine GoR.op ((op_move rfl) _) rfl rfl ?_
     refine GoR.pass rfl rfl ?_
     refine GoR.pass rfl rfl ?_
     refine GoR.pass rfl rfl ?_
     refine GoR.pass rfl rfl ?_
     refine GoR.pass rfl rfl ?_
     refine GoR.pass rfl rfl ?_
     refine GoR.pass rfl rfl ?_
     refine GoR.op ((op_pickT rfl rfl rfl) _) rfl rfl ?_
     refine GoR.nil ?_
     refine Go1.condT rfl rfl ?_
     refine Go1.seq ?_
     refine Go1.region ?_
     refine GoR.op ((op_assign rfl) _) rfl rfl ?_
     refine GoR.nil ?_
     refine Go1.ret1 Try.func31 rfl ?_
     exact ⟨false, rfl, (Below.same' hB), H⟩
    ·replace H := ifn h12 H
     refine GoR.op ((fun w => opB (op_lss rfl rfl w) (decide_eq_false h12)) _) rfl rfl ?_
     refine GoR.op ((op_move rfl) _) rfl rfl ?_
     refine GoR.op ((op_move rfl) _) rfl rfl ?_
     refine GoR.op ((op_move rfl) _) rfl rfl ?_
     obtain ⟨h13, H⟩ := H
     obtain ⟨h14, H⟩ := H
     refine GoR.op ((op_indexS Try.underlying9 rfl rfl h13 h14) _) rfl rfl ?_
     refine GoR.op ((op_sub rfl rfl rfl) _) rfl rfl ?_
     refine GoR.op ((op_conv Try.underlying5 Try.underlying3 rfl rfl) _) rfl rfl ?_
     refine GoR.op ((op_move rfl) _) rfl rfl ?_
     by_cases h15 : letters ≤ (IntKind.i64.wrap (IntKind.u8.wrap (((ix w_ (i1_8 : Int)).toNat : Int) - (97 : Int))))
     ·replace H := ifp h15 H
      refine GoR.op ((fun w => opB (op_geq rfl rfl w) (decide_eq_true h15)) _) rfl rfl ?_
      refine GoR.op ((op_pickF rfl rfl rfl) _) rfl rfl ?_
      refine GoR.nil ?_
      refine Go1.condT rfl rfl ?_
      refine Go1.seq ?_
      refine Go1.region ?_
      refine GoR.op ((op_assign rfl) _) rfl rfl ?_
      refine GoR.nil ?_
      refine Go1.ret1 Try.func31 rfl ?_
      exact ⟨false, rfl, (Below.same' hB), H⟩
     ·replace H := ifn h15 H
      refine GoR.op ((fun w => opB (op_geq rfl rfl w) (decide_eq_false h15)) _) rfl rfl ?_
      refine GoR.op ((op_pickF rfl rfl rfl) _) rfl rfl ?_
      refine GoR.nil ?_
      refine Go1.condF rfl rfl ?_
      refine Go1.skip ?_
      refine Go1.inBlock ?_
      refine Go1.region ?_
      refine GoR.op ((op_move rfl) _) rfl rfl ?_
      refine GoR.op ((op_add rfl rfl (wrap_i64 (by have := h9; have := hs_w_; unfold mx at this; exact ⟨by omega, by omega⟩))) _) rfl rfl ?_
      refine GoR.op ((op_assign rfl) _) rfl rfl ?_
      refine GoR.nil ?_
      exact hX1 _ H _ _ ⟨⟨rfl, rfl, rfl, trivial⟩, hO, hB⟩
   ·replace H := ifn h9 H
    refine GoR.op ((fun w => opB (op_lss rfl rfl w) (decide_eq_false h9)) _) rfl rfl ?_
    refine GoR.nil ?_
    refine Go1.condF rfl rfl ?_
    refine Go1.exit rfl ?_
    refine Go1.seq ?_
    refine Go1.region ?_
    refine GoR.op ((op_assign rfl) _) rfl rfl ?_
    refine GoR.nil ?_
    refine Go1.ret1 Try.func31 rfl ?_
    exact ⟨true, rfl, (Below.same' hB), H⟩
theorem body32 : Body Try.prog 32 := ⟨Try.f32, Try.func32, rfl, by kernel_rfl⟩
theorem walk_ref11_OfWord {A : List Nat} {w0 : World} {p_gens : Option Addr} {c_gens : Nat} {gens : List (List Int)} {w_ : Str} (hA : ∀ b ∈ A, b < w0.heap.size) (h_gens : ISl (Rp.sl (Rp.int .i64)) A w0 p_gens c_gens gens) (hs_w_ : w_.length ≤ mx) {K : List Int → Prop} (H : ref11_OfWord gens w_ K) :
    CallsV Try.prog 32 #[.slice p_gens gens.length c_gens, .string (gstr w_)] w0 (fun v w' => ∃ (r0 : List Int), ∃ (p_r0 : Option Addr), ∃ (c_r0 : Nat), v = .slice p_r0 r0.length c_r0 ∧ Same w0 w' ∧ ISl (Rp.int .i64) A w' p_r0 c_r0 r0 ∧ K r0) := by
 refine CallsV.of (l := [.slice p_gens gens.length c_gens, .string (gstr w_)]) Try.func32 rfl Try.ntmps32 rfl ?_
 have hO := Owns.start hA
 have hB := Below.refl w0.heap.size w0
 unfold ref11_OfWord at H
 replace h_gens := h_gens.ch (Ch.start A w0)
 refine Go1.seq ?_
 refine Go1.region ?_
 refine GoR.op ((op_assign rfl) _) rfl rfl ?_
 refine GoR.nil ?_
 refine Go1.seq ?_
 refine Go1.seq ?_
 refine Go1.region ?_
 refine GoR.op ((op_move rfl) _) rfl rfl ?_
 refine GoR.op ((op_move rfl) _) rfl rfl ?_
 refine GoR.op ((op_len Try.underlying35 rfl) _) rfl rfl ?_
 replace H := H h_gens.bd
 refine GoR.call (op_call body31 rfl (walk_ref01_Valid hO.lt hs_w_ H)) rfl rfl ?_
 rintro v4 w2 ⟨r1, rfl, hs3, H⟩
 have hst5 := Stp.same hO hs3
 replace hO := hst5.own
 replace h_gens := h_gens.ch hst5.ch
 replace hB := hB.trans hst5.bel
 cases r1
 ·replace H := ifn Bool.false_ne_true H
  refine GoR.op ((op_not rfl) _) rfl rfl ?_
  refine GoR.nil ?_
  refine Go1.condT rfl rfl ?_
  refine Go1.seq ?_
  refine Go1.region ?_
  refine GoR.op ((op_assign rfl) _) rfl rfl ?_
  refine GoR.nil ?_
  refine Go1.ret1 Try.func32 rfl ?_
  exact ⟨([] : List Int), none, 0, rfl, (Below.same' hB), (ISl.null _ _ _), H⟩
 ·replace H := ifp rfl H
  refine GoR.op ((op_not rfl) _) rfl rfl ?_
  refine GoR.nil ?_
  refine Go1.condF rfl rfl ?_
  refine Go1.skip ?_
  refine Go1.seq ?_
  refine Go1.region ?_
  refine GoR.op ((op_move rfl) _) rfl rfl ?_
  obtain ⟨h6, H⟩ := H
  obtain ⟨h7, H⟩ := H
  refine GoR.op ((op_index Try.underlying35 ti22 rfl rfl h6 h7 (h_gens.some_ h6 h7)) _) rfl rfl ?_
  obtain ⟨p8, c9, hi10, hl11⟩ := ldSl h_gens h6 h7
  refine GoR.op ((hl11 Try.underlying22 rfl rfl) _ (Same.refl _)) rfl rfl ?_
  refine GoR.op ((op_len Try.underlying22 rfl) _) rfl rfl ?_
  replace H := H hi10.bd
  refine GoR.call (op_call body23 rfl (walk_ref03_Discrete hO.lt H)) rfl rfl ?_
  rintro v15 w13 ⟨r12, p_r12, c_r12, rfl, hs14, h_r12, H⟩
  have hst16 := Stp.same hO hs14
  replace hO := hst16.own
  replace h_gens := h_gens.ch hst16.ch
  replace hi10 := hi10.ch hst16.ch
  replace hB := hB.trans hst16.bel
  refine GoR.op ((op_assign rfl) _) rfl rfl ?_
  refine GoR.nil ?_
  refine Go1.seq ?_
  refine Go1.seq ?_
  refine Go1.region ?_
  refine GoR.op ((op_assign rfl) _) rfl rfl ?_
  refine GoR.nil ?_
  refine Go1.block ?_
  refine Go1.loopW (S := List Int × Nat) (fun s σ w => ∃ (p19 : Option Addr), ∃ (c20 : Nat), agrees σ [(0, .slice p_gens gens.length c_gens), (1, .string (gstr w_)), (5, .slice p19 (s.1).length c20), (6, .int .i64 ((s.2) : Int))] ∧ Owns w0.heap.size w [] A ∧ ISl (Rp.sl (Rp.int .i64)) (bl [] ++ A) w p_gens c_gens gens ∧ ISl (Rp.int .i64) (bl [] ++ A) w p19 c20 (s.1) ∧ Below w0.heap.size w0 w) H ⟨p_r12, c_r12, ⟨rfl, rfl, rfl, rfl, trivial⟩, hO, h_gens, h_r12, hB⟩ ?_
  rintro X1 ⟨out1_18, i1_22⟩ H hX1 σ w17 ⟨p19, c20, hag, hO, h_gens, hi21, hB⟩
  dsimp only at H
  refine Go1.keep [(0, .slice p_gens gens.length c_gens), (1, .string (gstr w_)), (5, .slice p19 out1_18.length c20), (6, .int .i64 (i1_22 : Int))] hag ?_
  refine Go1.seq ?_
  refine Go1.seq ?_
  refine Go1.region ?_
  refine GoR.op ((op_move rfl) _) rfl rfl ?_
  refine GoR.op ((op_move rfl) _) rfl rfl ?_
  refine GoR.op ((op_lenS Try.underlying9 rfl) _) rfl rfl ?_
  replace H := H hs_w_
  by_cases h23 : (i1_22 : Int) < (w_.length : Int)
  ·replace H := ifp h23 H
   refine GoR.op ((fun w => opB (op_lss rfl rfl w) (decide_eq_true h23)) _) rfl rfl ?_
   refine GoR.nil ?_
   refine Go1.condT rfl rfl ?_
   refine Go1.skip ?_
   refine Go1.seq ?_
   refine Go1.block ?_
   refine Go1.region ?_
   refine GoR.op ((op_move rfl) _) rfl rfl ?_
   refine GoR.op ((op_move rfl) _) rfl rfl ?_
   refine GoR.op ((op_move rfl) _) rfl rfl ?_
   refine GoR.op ((op_move rfl) _) rfl rfl ?_
   obtain ⟨h24, H⟩ := H
   obtain ⟨h25, H⟩ := H
   refine GoR.op ((op_indexS Try.underlying9 rfl rfl h24 h25) _) rfl rfl ?_
   refine GoR.op ((op_sub rfl rfl rfl) _) rfl rfl ?_
   refine GoR.op ((op_conv Try.underlying5 Try.underlying3 rfl rfl) _) rfl rfl ?_
   obtain ⟨h26, H⟩ := H
   obtain ⟨h27, H⟩ := H
   refine GoR.op ((op_index Try.underlying35 ti22 rfl rfl h26 h27 (h_gens.some_ h26 h27)) _) rfl rfl ?_
   obtain ⟨p28, c29, hi30, hl31⟩ := ldSl h_gens h26 h27
   refine GoR.op ((hl31 Try.underlying22 rfl rfl) _ (Same.refl _)) rfl rfl ?_
   refine GoR.call (op_call body19 rfl (walk_ref11_Compose hO.lt hi21 hi30 H)) rfl rfl ?_
   rintro v35 w33 ⟨r32, p_r32, c_r32, rfl, hs34, h_r32, H⟩
   have hst36 := Stp.same hO hs34
   replace hO := hst36.own
   replace h_gens := h_gens.ch hst36.ch
   replace hi21 := hi21.ch hst36.ch
   replace hi30 := hi30.ch hst36.ch
   replace hB := hB.trans hst36.bel
   refine GoR.op ((op_assign rfl) _) rfl rfl ?_
   refine GoR.nil ?_
   refine Go1.inBlock ?_
   refine Go1.region ?_
   refine GoR.op ((op_move rfl) _) rfl rfl ?_
   refine GoR.op ((op_add rfl rfl (wrap_i64 (by have := h23; have := hs_w_; unfold mx at this; exact ⟨by omega, by omega⟩))) _) rfl rfl ?_
   refine GoR.op ((op_assign rfl) _) rfl rfl ?_
   refine GoR.nil ?_
   exact hX1 _ H _ _ ⟨p_r32, c_r32, ⟨rfl, rfl, rfl, rfl, trivial⟩, hO, h_gens, h_r32, hB⟩
  ·replace H := ifn h23 H
   refine GoR.op ((fun w => opB (op_lss rfl rfl w) (decide_eq_false h23)) _) rfl rfl ?_
   refine GoR.nil ?_
   refine Go1.condF rfl rfl ?_
   refine Go1.exit rfl ?_
   refine Go1.seq ?_
   refine Go1.region ?_
   refine GoR.op ((op_move rfl) _) rfl rfl ?_
   refine GoR.op ((op_assign rfl) _) rfl rfl ?_
   refine GoR.nil ?_
   refine Go1.ret1 Try.func32 rfl ?_
   exact ⟨out1_18, p19, c20, rfl, (Below.same' hB), (hi21.ch (Ch.weak _ _ _)), H⟩
theorem body7 : Body Try.prog 7 := ⟨Try.f7, Try.func7, rfl, by kernel_rfl⟩
theorem walk_law11_TransWords {A : List Nat} {w0 : World} {p_gens : Option Addr} {c_gens : Nat} {gens : List (List Int)} {u : Str} {w_ : Str} (hA : ∀ b ∈ A, b < w0.heap.size) (h_gens : ISl (Rp.sl (Rp.int .i64)) A w0 p_gens c_gens gens) (hs_u : u.length ≤ mx) (hs_w_ : w_.length ≤ mx) {K : Bool → Prop} (H : law11_TransWords gens u w_ K) :
    CallsV Try.prog 7 #[.slice p_gens gens.length c_gens, .string (gstr u), .string (gstr w_)] w0 (fun v w' => ∃ (r0 : Bool), v = .bool r0 ∧ Same w0 w' ∧ K r0) := by
 refine CallsV.of (l := [.slice p_gens gens.length c_gens, .string (gstr u), .string (gstr w_)]) Try.func7 rfl Try.ntmps7 rfl ?_
 have hO := Owns.start hA
 have hB := Below.refl w0.heap.size w0
 unfold law11_TransWords at H
 replace h_gens := h_gens.ch (Ch.start A w0)
 refine Go1.seq ?_
 refine Go1.region ?_
 refine GoR.op ((op_assign rfl) _) rfl rfl ?_
 refine GoR.nil ?_
 refine Go1.seq ?_
 refine Go1.region ?_
 refine GoR.op ((op_move rfl) _) rfl rfl ?_
 refine GoR.op ((op_move rfl) _) rfl rfl ?_
 refine GoR.call (op_call body29 rfl (walk_trans_OfWord hO.lt h_gens hs_w_ H)) rfl rfl ?_
 rintro v4 w2 ⟨r1, p_r1, c_r1, rfl, hs3, h_r1, H⟩
 have hst5 := Stp.same hO hs3
 replace hO := hst5.own
 replace h_gens := h_gens.ch hst5.ch
 replace hB := hB.trans hst5.bel
 refine GoR.op ((op_assign rfl) _) rfl rfl ?_
 refine GoR.nil ?_
 refine Go1.seq ?_
 refine Go1.seq ?_
 refine Go1.region ?_
 refine GoR.op ((op_move rfl) _) rfl rfl ?_
 refine GoR.call (op_call body30 rfl (walk_ref11_MayGens hO.lt h_gens H)) rfl rfl ?_
 rintro v9 w7 ⟨r6, rfl, hs8, H⟩
 have hst10 := Stp.same hO hs8
 replace hO := hst10.own
 replace h_gens := h_gens.ch hst10.ch
 replace h_r1 := h_r1.ch hst10.ch
 replace hB := hB.trans hst10.bel
 cases r6
 ·replace H := ifn Bool.false_ne_true H
  refine GoR.op ((op_not rfl) _) rfl rfl ?_
  refine GoR.op ((op_move rfl) _) rfl rfl ?_
  refine GoR.pass rfl rfl ?_
  refine GoR.pass rfl rfl ?_
  refine GoR.pass rfl rfl ?_
  refine GoR.pass rfl rfl ?_
  refine GoR.pass rfl rfl ?_
  refine GoR.op ((op_pickT rfl rfl rfl) _) rfl rfl ?_
  refine GoR.nil ?_
  refine Go1.condT rfl rfl ?_
  refine Go1.seq ?_
  refine Go1.region ?_
  refine GoR.op ((op_move rfl) _) rfl rfl ?_
  refine GoR.op ((op_len Try.underlying22 rfl) _) rfl rfl ?_
  replace H := H h_r1.bd
  by_cases h11 : (r1.length : Int) = (0 : Int)
  ·replace H := ifp h11 H
   refine GoR.op ((fun w => opB (op_eql rfl rfl w) (decide_eq_true h11)) _) rfl rfl ?_
   refine GoR.op ((op_move rfl) _) rfl rfl ?_
   refine GoR.call (op_call body17 rfl (walk_law11_awake hO.lt H)) rfl rfl ?_
   rintro v15 w13 ⟨r12, rfl, hs14, H⟩
   have hst16 := Stp.same hO hs14
   replace hO := hst16.own
   replace h_gens := h_gens.ch hst16.ch
   replace h_r1 := h_r1.ch hst16.ch
   replace hB := hB.trans hst16.bel
   refine GoR.op ((op_pickT rfl rfl rfl) _) rfl rfl ?_
   refine GoR.op ((op_assign rfl) _) rfl rfl ?_
   refine GoR.nil ?_
   refine Go1.ret1 Try.func7 rfl ?_
   exact ⟨r12, rfl, (Below.same' hB), H⟩
  ·replace H := ifn h11 H
   refine GoR.op ((fun w => opB (op_eql rfl rfl w) (decide_eq_false h11)) _) rfl rfl ?_
   refine GoR.op ((op_move rfl) _) rfl rfl ?_
   refine GoR.pass rfl rfl ?_
   refine GoR.op ((op_pickF rfl rfl rfl) _) rfl rfl ?_
   refine GoR.op ((op_assign rfl) _) rfl rfl ?_
   refine GoR.nil ?_
   refine Go1.ret1 Try.func7 rfl ?_
   exact ⟨false, rfl, (Below.same' hB), H⟩
 ·replace H := ifp rfl H
  refine GoR.op ((op_not rfl) _) rfl rfl ?_
  refine GoR.op ((op_move rfl) _) rfl rfl ?_
  refine GoR.op ((op_move rfl) _) rfl rfl ?_
  refine GoR.op ((op_move rfl) _) rfl rfl ?_
  refine GoR.op ((op_len Try.underlying35 rfl) _) rfl rfl ?_
  replace H := H h_gens.bd
  refine GoR.call (op_call body31 rfl (walk_ref01_Valid hO.lt hs_w_ H)) rfl rfl ?_
  rintro v20 w18 ⟨r17, rfl, hs19, H⟩
  have hst21 := Stp.same hO hs19
  replace hO := hst21.own
  replace h_gens := h_gens.ch hst21.ch
  replace h_r1 := h_r1.ch hst21.ch
  replace hB := hB.trans hst21.bel
  cases r17
  ·replace H := ifn Bool.false_ne_true H
   refine GoR.op ((op_not rfl) _) rfl rfl ?_
   refine GoR.op ((op_pickF rfl rfl rfl) _) rfl rfl ?_
   refine GoR.nil ?_
   refine Go1.condT rfl rfl ?_
   refine Go1.seq ?_
   refine Go1.region ?_
   refine GoR.op ((op_move rfl) _) rfl rfl ?_
   refine GoR.op ((op_len Try.underlying22 rfl) _) rfl rfl ?_
   replace H := H h_r1.bd
   by_cases h22 : (r1.length : Int) = (0 : Int)
   ·replace H := ifp h22 H
    refine GoR.op ((fun w => opB (op_eql rfl rfl w) (decide_eq_true h22)) _) rfl rfl ?_
    refine GoR.op ((op_move rfl) _) rfl rfl ?_
    refine GoR.call (op_call body17 rfl (walk_law11_awake hO.lt H)) rfl rfl ?_
    rintro v26 w24 ⟨r23, rfl, hs25, H⟩
    have hst27 := Stp.same hO hs25
    replace hO := hst27.own
    replace h_gens := h_gens.ch hst27.ch
    replace h_r1 := h_r1.ch hst27.ch
    replace hB := hB.trans hst27.bel
    refine GoR.op ((op_pickT rfl rfl rfl) _) rfl rfl ?_
    refine GoR.op ((op_assign rfl) _) rfl rfl ?_
    refine GoR.nil ?_
    refine Go1.ret1 Try.func7 rfl ?_
    exact ⟨r23, rfl, (Below.same' hB), H⟩
   ·replace H := ifn h22 H
    refine GoR.op ((fun w => opB (op_eql rfl rfl w) (decide_eq_false h22)) _) rfl rfl ?_
    refine GoR.op ((op_move rfl) _) rfl rfl ?_
    refine GoR.pass rfl rfl ?_
    refine GoR.op ((op_pickF rfl rfl rfl) _) rfl rfl ?_
    refine GoR.op ((op_assign rfl) _) rfl rfl ?_
    refine GoR.nil ?_
    refine Go1.ret1 Try.func7 rfl ?_
    exact ⟨false, rfl, (Below.same' hB), H⟩
  ·replace H := ifp rfl H
   refine GoR.op ((op_not rfl) _) rfl rfl ?_
   refine GoR.op ((op_pickF rfl rfl rfl) _) rfl rfl ?_
   refine GoR.nil ?_
   refine Go1.condF rfl rfl ?_
   refine Go1.skip ?_
   refine Go1.seq ?_
   refine Go1.seq ?_
   refine Go1.region ?_
   refine GoR.op ((op_move rfl) _) rfl rfl ?_
   refine GoR.op ((op_move rfl) _) rfl rfl ?_
   refine GoR.op ((op_move rfl) _) rfl rfl ?_
   refine GoR.call (op_call body32 rfl (walk_ref11_OfWord hO.lt h_gens hs_w_ H)) rfl rfl ?_
   rintro v31 w29 ⟨r28, p_r28, c_r28, rfl, hs30, h_r28, H⟩
   have hst32 := Stp.same hO hs30
   replace hO := hst32.own
   replace h_gens := h_gens.ch hst32.ch
   replace h_r1 := h_r1.ch hst32.ch
   replace hB := hB.trans hst32.bel
   refine GoR.call (op_call body18 rfl (walk_ref03_Same hO.lt h_r1 h_r28 H)) rfl rfl ?_
   rintro v36 w34 ⟨r33, rfl, hs35, H⟩
   have hst37 := Stp.same hO hs35
   replace hO := hst37.own
   replace h_gens := h_gens.ch hst37.ch
   replace h_r1 := h_r1.ch hst37.ch
   replace h_r28 := h_r28.ch hst37.ch
   replace hB := hB.trans hst37.bel
   cases r33
   ·replace H := ifn Bool.false_ne_true H
    refine GoR.op ((op_not rfl) _) rfl rfl ?_
    refine GoR.nil ?_
    refine Go1.condT rfl rfl ?_
    refine Go1.seq ?_
    refine Go1.region ?_
    refine GoR.op ((op_assign rfl) _) rfl rfl ?_
    refine GoR.nil ?_
    refine Go1.ret1 Try.func7 rfl ?_
    exact ⟨false, rfl, (Below.same' hB), H⟩
   ·replace H := ifp rfl H
    refine GoR.op ((op_not rfl) _) rfl rfl ?_
    refine GoR.nil ?_
    refine Go1.condF rfl rfl ?_
    refine Go1.skip ?_
    refine Go1.seq ?_
    refine Go1.seq ?_
    refine Go1.region ?_
    refine GoR.op ((op_move rfl) _) rfl rfl ?_
    refine GoR.op ((op_move rfl) _) rfl rfl ?_
    obtain ⟨h38, H⟩ := H
    refine GoR.op ((op_addS rfl rfl h38) _) rfl rfl ?_
    refine GoR.op ((op_move rfl) _) rfl rfl ?_
    refine GoR.op ((op_len Try.underlying35 rfl) _) rfl rfl ?_
    refine GoR.call (op_call body31 rfl (walk_ref01_Valid hO.lt (lenApp h38) H)) rfl rfl ?_
    rintro v42 w40 ⟨r39, rfl, hs41, H⟩
    have hst43 := Stp.same hO hs41
    replace hO := hst43.own
    replace h_gens := h_gens.ch hst43.ch
    replace h_r1 := h_r1.ch hst43.ch
    replace h_r28 := h_r28.ch hst43.ch
    replace hB := hB.trans hst43.bel
    cases r39
    ·replace H := ifn Bool.false_ne_true H
     refine GoR.op ((op_not rfl) _) rfl rfl ?_
     refine GoR.nil ?_
     refine Go1.condT rfl rfl ?_
     refine Go1.seq ?_
     refine Go1.region ?_
     refine GoR.call (op_call body17 rfl (walk_law11_awake hO.lt H)) rfl rfl ?_
     rintro v47 w45 ⟨r44, rfl, hs46, H⟩
     have hst48 := Stp.same hO hs46
     replace hO := hst48.own
     replace h_gens := h_gens.ch hst48.ch
     replace h_r1 := h_r1.ch hst48.ch
     replace h_r28 := h_r28.ch hst48.ch
     replace hB := hB.trans hst48.bel
     refine GoR.op ((op_assign rfl) _) rfl rfl ?_
     refine GoR.nil ?_
     refine Go1.ret1 Try.func7 rfl ?_
     exact ⟨r44, rfl, (Below.same' hB), H⟩
    ·replace H := ifp rfl H
     refine GoR.op ((op_not rfl) _) rfl rfl ?_
     refine GoR.nil ?_
     refine Go1.condF rfl rfl ?_
     refine Go1.skip ?_
     refine Go1.seq ?_
     refine Go1.region ?_
     refine GoR.op ((op_move rfl) _) rfl rfl ?_
     refine GoR.op ((op_move rfl) _) rfl rfl ?_
     refine GoR.op ((op_move rfl) _) rfl rfl ?_
     obtain ⟨h49, H⟩ := H
     refine GoR.op ((op_addS rfl rfl h49) _) rfl rfl ?_
     refine GoR.call (op_call body29 rfl (walk_trans_OfWord hO.lt h_gens (lenApp h49) H)) rfl rfl ?_
     rintro v53 w51 ⟨r50, p_r50, c_r50, rfl, hs52, h_r50, H⟩
     have hst54 := Stp.same hO hs52
     replace hO := hst54.own
     replace h_gens := h_gens.ch hst54.ch
     replace h_r1 := h_r1.ch hst54.ch
     replace h_r28 := h_r28.ch hst54.ch
     replace hB := hB.trans hst54.bel
     refine GoR.op ((op_move rfl) _) rfl rfl ?_
     refine GoR.op ((op_move rfl) _) rfl rfl ?_
     refine GoR.call (op_call body29 rfl (walk_trans_OfWord hO.lt h_gens hs_u H)) rfl rfl ?_
     rintro v58 w56 ⟨r55, p_r55, c_r55, rfl, hs57, h_r55, H⟩
     have hst59 := Stp.same hO hs57
     replace hO := hst59.own
     replace h_gens := h_gens.ch hst59.ch
     replace h_r1 := h_r1.ch hst59.ch
     replace h_r28 := h_r28.ch hst59.ch
     replace h_r50 := h_r50.ch hst59.ch
     replace hB := hB.trans hst59.bel
     refine GoR.op ((op_move rfl) _) rfl rfl ?_
     refine GoR.call (op_call body15 rfl (walk_trans_Compose hO.lt h_r55 h_r1 H)) rfl rfl ?_
     rintro v63 w61 ⟨r60, p_r60, c_r60, rfl, hs62, h_r60, H⟩
     have hst64 := Stp.same hO hs62
     replace hO := hst64.own
     replace h_gens := h_gens.ch hst64.ch
     replace h_r1 := h_r1.ch hst64.ch
     replace h_r28 := h_r28.ch hst64.ch
     replace h_r50 := h_r50.ch hst64.ch
     replace h_r55 := h_r55.ch hst64.ch
     replace hB := hB.trans hst64.bel
     refine GoR.call (op_call body18 rfl (walk_ref03_Same hO.lt h_r50 h_r60 H)) rfl rfl ?_
     rintro v68 w66 ⟨r65, rfl, hs67, H⟩
     have hst69 := Stp.same hO hs67
     replace hO := hst69.own
     replace h_gens := h_gens.ch hst69.ch
     replace h_r1 := h_r1.ch hst69.ch
     replace h_r28 := h_r28.ch hst69.ch
     replace h_r50 := h_r50.ch hst69.ch
     replace h_r55 := h_r55.ch hst69.ch
     replace h_r60 := h_r60.ch hst69.ch
     replace hB := hB.trans hst69.bel
     refine GoR.op ((op_move rfl) _) rfl rfl ?_
     cases r65
     ·replace H := ifn Bool.false_ne_true H
      refine GoR.pass rfl rfl ?_
      refine GoR.op ((op_pickF rfl rfl rfl) _) rfl rfl ?_
      refine GoR.op ((op_assign rfl) _) rfl rfl ?_
      refine GoR.nil ?_
      refine Go1.ret1 Try.func7 rfl ?_
      exact ⟨false, rfl, (Below.same' hB), H⟩
     ·replace H := ifp rfl H
      refine GoR.call (op_call body17 rfl (walk_law11_awake hO.lt H)) rfl rfl ?_
      rintro v73 w71 ⟨r70, rfl, hs72, H⟩
      have hst74 := Stp.same hO hs72
      replace hO := hst74.own
      replace h_gens := h_gens.ch hst74.ch
      replace h_r1 := h_r1.ch hst74.ch
      replace h_r28 := h_r28.ch hst74.ch
      replace h_r50 := h_r50.ch hst74.ch
      replace h_r55 := h_r55.ch hst74.ch
      replace h_r60 := h_r60.ch hst74.ch
      replace hB := hB.trans hst74.bel
      refine GoR.op ((op_pickT rfl rfl rfl) _) rfl rfl ?_
      refine GoR.op ((op_assign rfl) _) rfl rfl ?_
      refine GoR.nil ?_
      refine Go1.ret1 Try.func7 rfl ?_
      exact ⟨r70, rfl, (Below.same' hB), H⟩
end Sg
