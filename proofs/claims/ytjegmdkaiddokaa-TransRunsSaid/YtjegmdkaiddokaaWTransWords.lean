/- The walks: each call keeps to its plain transformer. Printed by walkgen.py. -/
import Derived.Test.YtjegmdkaiddokaaWTransPowers
namespace Sg
open Go Go.RowKit Go.Proofs
set_option linter.unusedVariables false
set_option maxRecDepth 100000
set_option maxHeartbeats 4000000
theorem body54 : Body Try.prog 54 := ⟨Try.f54, Try.func54, rfl, by kernel_rfl⟩
theorem walk_word_Valid {A : List Nat} {w0 : World} {w_ : Str} {letters : Int} (hA : ∀ b ∈ A, b < w0.heap.size) (hs_w_ : w_.length ≤ mx) {K : Bool → Prop} (H : word_Valid w_ letters K) :
    CallsV Try.prog 54 #[.string (gstr w_), .int .i64 letters] w0 (fun v w' => ∃ (r0 : Bool), v = .bool r0 ∧ Same w0 w' ∧ K r0) := by
 refine CallsV.of (l := [.string (gstr w_), .int .i64 letters]) Try.func54 rfl Try.ntmps54 rfl ?_
 have hO := Owns.start hA
 have hB := Fr.refl (bl []) w0
 unfold word_Valid at H
 refine Go1.seq ?_
 refine Go1.region ?_
 refine GoR.op ((op_assign rfl) _) rfl rfl ?_
 refine GoR.nil ?_
 refine Go1.seq ?_
 refine Go1.seq ?_
 refine Go1.region ?_
 refine GoR.op ((op_move rfl) _) rfl rfl ?_
 by_cases h1 : letters < (1 : Int)
 ·replace H := ifp h1 H
  refine GoR.op ((fun w => opB (op_lss rfl rfl w) (decide_eq_true h1)) _) rfl rfl ?_
  refine GoR.op ((op_move rfl) _) rfl rfl ?_
  refine GoR.pass rfl rfl ?_
  refine GoR.pass rfl rfl ?_
  refine GoR.op ((op_pickT rfl rfl rfl) _) rfl rfl ?_
  refine GoR.op ((op_move rfl) _) rfl rfl ?_
  refine GoR.pass rfl rfl ?_
  refine GoR.pass rfl rfl ?_
  refine GoR.pass rfl rfl ?_
  refine GoR.op ((op_pickT rfl rfl rfl) _) rfl rfl ?_
  refine GoR.nil ?_
  refine Go1.condT rfl rfl ?_
  refine Go1.seq ?_
  refine Go1.region ?_
  refine GoR.op ((op_assign rfl) _) rfl rfl ?_
  refine GoR.nil ?_
  refine Go1.ret1 Try.func54 rfl ?_
  exact ⟨false, rfl, hB.same, H⟩
 ·replace H := ifn h1 H
  refine GoR.op ((fun w => opB (op_lss rfl rfl w) (decide_eq_false h1)) _) rfl rfl ?_
  refine GoR.op ((op_move rfl) _) rfl rfl ?_
  refine GoR.op ((op_move rfl) _) rfl rfl ?_
  by_cases h2 : (6 : Int) < letters
  ·replace H := ifp h2 H
   refine GoR.op ((fun w => opB (op_gtr rfl rfl w) (decide_eq_true h2)) _) rfl rfl ?_
   refine GoR.op ((op_pickF rfl rfl rfl) _) rfl rfl ?_
   refine GoR.op ((op_move rfl) _) rfl rfl ?_
   refine GoR.pass rfl rfl ?_
   refine GoR.pass rfl rfl ?_
   refine GoR.pass rfl rfl ?_
   refine GoR.op ((op_pickT rfl rfl rfl) _) rfl rfl ?_
   refine GoR.nil ?_
   refine Go1.condT rfl rfl ?_
   refine Go1.seq ?_
   refine Go1.region ?_
   refine GoR.op ((op_assign rfl) _) rfl rfl ?_
   refine GoR.nil ?_
   refine Go1.ret1 Try.func54 rfl ?_
   exact ⟨false, rfl, hB.same, H⟩
  ·replace H := ifn h2 H
   refine GoR.op ((fun w => opB (op_gtr rfl rfl w) (decide_eq_false h2)) _) rfl rfl ?_
   refine GoR.op ((op_pickF rfl rfl rfl) _) rfl rfl ?_
   refine GoR.op ((op_move rfl) _) rfl rfl ?_
   refine GoR.op ((op_move rfl) _) rfl rfl ?_
   refine GoR.op ((op_lenS Try.underlying9 rfl) _) rfl rfl ?_
   replace H := H hs_w_
   by_cases h3 : (2048 : Int) < (w_.length : Int)
   ·replace H := ifp h3 H
    refine GoR.op ((fun w => opB (op_gtr rfl rfl w) (decide_eq_true h3)) _) rfl rfl ?_
    refine GoR.op ((op_pickF rfl rfl rfl) _) rfl rfl ?_
    refine GoR.nil ?_
    refine Go1.condT rfl rfl ?_
    refine Go1.seq ?_
    refine Go1.region ?_
    refine GoR.op ((op_assign rfl) _) rfl rfl ?_
    refine GoR.nil ?_
    refine Go1.ret1 Try.func54 rfl ?_
    exact ⟨false, rfl, hB.same, H⟩
   ·replace H := ifn h3 H
    refine GoR.op ((fun w => opB (op_gtr rfl rfl w) (decide_eq_false h3)) _) rfl rfl ?_
    refine GoR.op ((op_pickF rfl rfl rfl) _) rfl rfl ?_
    refine GoR.nil ?_
    refine Go1.condF rfl rfl ?_
    refine Go1.skip ?_
    refine Go1.seq ?_
    refine Go1.seq ?_
    refine Go1.region ?_
    refine GoR.op ((op_move rfl) _) rfl rfl ?_
    refine GoR.op ((op_lenS Try.underlying9 rfl) _) rfl rfl ?_
    refine GoR.op ((op_move rfl) _) rfl rfl ?_
    refine GoR.nil ?_
    refine Go1.block ?_
    refine Go1.loopW (S := Nat) (fun s σ w => agrees σ [(0, .string (gstr w_)), (1, .int .i64 letters), (18, .int .i64 (w_.length : Int)), (19, .int .i64 (s : Int))] ∧ Owns w0.heap.size w [] A ∧ Fr (bl []) w0 (bl []) w) H ⟨⟨rfl, rfl, rfl, rfl, trivial⟩, hO, hB⟩ ?_
    rintro X1 k1_5 H hX1 σ w4 ⟨hag, hO, hB⟩
    refine Go1.keep [(0, .string (gstr w_)), (1, .int .i64 letters), (18, .int .i64 (w_.length : Int)), (19, .int .i64 (k1_5 : Int))] hag ?_
    refine Go1.seq ?_
    refine Go1.region ?_
    by_cases h6 : (k1_5 : Int) < (w_.length : Int)
    ·replace H := ifp h6 H
     refine GoR.op ((fun w => opB (op_lss rfl rfl w) (decide_eq_true h6)) _) rfl rfl ?_
     refine GoR.nil ?_
     refine Go1.seq ?_
     refine Go1.condT rfl rfl ?_
     refine Go1.skip ?_
     refine Go1.seq ?_
     refine Go1.block ?_
     refine Go1.seq ?_
     refine Go1.region ?_
     refine GoR.op ((op_move rfl) _) rfl rfl ?_
     refine GoR.op ((op_assign rfl) _) rfl rfl ?_
     refine GoR.nil ?_
     refine Go1.seq ?_
     refine Go1.region ?_
     refine GoR.op ((op_move rfl) _) rfl rfl ?_
     refine GoR.op ((op_move rfl) _) rfl rfl ?_
     obtain ⟨h7, H⟩ := H
     obtain ⟨h8, H⟩ := H
     refine GoR.op ((op_indexS Try.underlying9 rfl rfl h7 h8) _) rfl rfl ?_
     by_cases h9 : ((ix w_ (k1_5 : Int)).toNat : Int) < (97 : Int)
     ·replace H := ifp h9 H
      refine GoR.op ((fun w => opB (op_lss rfl rfl w) (decide_eq_true h9)) _) rfl rfl ?_
      refine GoR.op ((op_move rfl) _) rfl rfl ?_
      refine GoR.pass rfl rfl ?_
      refine GoR.pass rfl rfl ?_
      refine GoR.pass rfl rfl ?_
      refine GoR.pass rfl rfl ?_
      refine GoR.pass rfl rfl ?_
      refine GoR.pass rfl rfl ?_
      refine GoR.pass rfl rfl ?_
      refine GoR.op ((op_pickT rfl rfl rfl) _) rfl rfl ?_
      refine GoR.nil ?_
      refine Go1.condT rfl rfl ?_
      refine Go1.seq ?_
      refine Go1.region ?_
      refine GoR.op ((op_assign rfl) _) rfl rfl ?_
      refine GoR.nil ?_
      refine Go1.ret1 Try.func54 rfl ?_
      exact ⟨false, rfl, hB.same, H⟩
     ·replace H := ifn h9 H
      refine GoR.op ((fun w => opB (op_lss rfl rfl w) (decide_eq_false h9)) _) rfl rfl ?_
      refine GoR.op ((op_move rfl) _) rfl rfl ?_
      refine GoR.op ((op_move rfl) _) rfl rfl ?_
      refine GoR.op ((op_move rfl) _) rfl rfl ?_
      obtain ⟨h10, H⟩ := H
      obtain ⟨h11, H⟩ := H
      refine GoR.op ((op_indexS Try.underlying9 rfl rfl h10 h11) _) rfl rfl ?_
      refine GoR.op ((op_sub rfl rfl rfl) _) rfl rfl ?_
      refine GoR.op ((op_conv Try.underlying5 Try.underlying3 rfl rfl) _) rfl rfl ?_
      refine GoR.op ((op_move rfl) _) rfl rfl ?_
      by_cases h12 : letters ≤ (IntKind.i64.wrap (IntKind.u8.wrap (((ix w_ (k1_5 : Int)).toNat : Int) - (97 : Int))))
      ·replace H := ifp h12 H
       refine GoR.op ((fun w => opB (op_geq rfl rfl w) (decide_eq_true h12)) _) rfl rfl ?_
       refine GoR.op ((op_pickF rfl rfl rfl) _) rfl rfl ?_
       refine GoR.nil ?_
       refine Go1.condT rfl rfl ?_
       refine Go1.seq ?_
       refine Go1.region ?_
       refine GoR.op ((op_assign rfl) _) rfl rfl ?_
       refine GoR.nil ?_
       refine Go1.ret1 Try.func54 rfl ?_
       exact ⟨false, rfl, hB.same, H⟩
      ·replace H := ifn h12 H
       refine GoR.op ((fun w => opB (op_geq rfl rfl w) (decide_eq_false h12)) _) rfl rfl ?_
       refine GoR.op ((op_pickF rfl rfl rfl) _) rfl rfl ?_
       refine GoR.nil ?_
       refine Go1.condF rfl rfl ?_
       refine Go1.skip ?_
       refine Go1.inBlock ?_
       refine Go1.region ?_
       refine GoR.op ((op_add rfl rfl (wrap_i64 (natbd h6 hs_w_))) _) rfl rfl ?_
       refine GoR.op ((op_move rfl) _) rfl rfl ?_
       refine GoR.nil ?_
       exact hX1 _ H _ _ ⟨⟨rfl, rfl, rfl, rfl, trivial⟩, hO, hB⟩
    ·replace H := ifn h6 H
     refine GoR.op ((fun w => opB (op_lss rfl rfl w) (decide_eq_false h6)) _) rfl rfl ?_
     refine GoR.nil ?_
     refine Go1.seq ?_
     refine Go1.condF rfl rfl ?_
     refine Go1.exit rfl ?_
     refine Go1.seq ?_
     refine Go1.region ?_
     refine GoR.op ((op_assign rfl) _) rfl rfl ?_
     refine GoR.nil ?_
     refine Go1.ret1 Try.func54 rfl ?_
     exact ⟨true, rfl, hB.same, H⟩
theorem body29 : Body Try.prog 29 := ⟨Try.f29, Try.func29, rfl, by kernel_rfl⟩
theorem walk_trans_OfWord {A : List Nat} {w0 : World} {p_gens : Option Addr} {c_gens : Nat} {gens : List (List Int)} {w_ : Str} (hA : ∀ b ∈ A, b < w0.heap.size) (h_gens : ISl (Rp.sl (Rp.int .i64)) A w0 p_gens c_gens gens) (hs_w_ : w_.length ≤ mx) {K : List Int → Prop} (H : trans_OfWord gens w_ K) :
    CallsV Try.prog 29 #[.slice p_gens gens.length c_gens, .string (gstr w_)] w0 (fun v w' => ∃ (r0 : List Int), ∃ (p_r0 : Option Addr), ∃ (c_r0 : Nat), v = .slice p_r0 r0.length c_r0 ∧ Same w0 w' ∧ ISl (Rp.int .i64) A w' p_r0 c_r0 r0 ∧ K r0) := by
 refine CallsV.of (l := [.slice p_gens gens.length c_gens, .string (gstr w_)]) Try.func29 rfl Try.ntmps29 rfl ?_
 have hO := Owns.start hA
 have hB := Fr.refl (bl []) w0
 unfold trans_OfWord at H
 replace h_gens := h_gens.ch (Ch.start A w0)
 refine Go1.seq ?_
 refine Go1.region ?_
 refine GoR.op ((op_assign rfl) _) rfl rfl ?_
 refine GoR.nil ?_
 refine Go1.seq ?_
 refine Go1.seq ?_
 refine Go1.region ?_
 refine GoR.op ((op_move rfl) _) rfl rfl ?_
 refine GoR.op ((op_len Try.underlying35 rfl) _) rfl rfl ?_
 replace H := H h_gens.bd
 by_cases h1 : (gens.length : Int) = (0 : Int)
 ·replace H := ifp h1 H
  refine GoR.op ((fun w => opB (op_eql rfl rfl w) (decide_eq_true h1)) _) rfl rfl ?_
  refine GoR.op ((op_move rfl) _) rfl rfl ?_
  refine GoR.pass rfl rfl ?_
  refine GoR.pass rfl rfl ?_
  refine GoR.pass rfl rfl ?_
  refine GoR.pass rfl rfl ?_
  refine GoR.pass rfl rfl ?_
  refine GoR.op ((op_pickT rfl rfl rfl) _) rfl rfl ?_
  refine GoR.nil ?_
  refine Go1.condT rfl rfl ?_
  refine Go1.seq ?_
  refine Go1.region ?_
  refine GoR.op ((op_assign rfl) _) rfl rfl ?_
  refine GoR.nil ?_
  refine Go1.ret1 Try.func29 rfl ?_
  exact ⟨([] : List Int), none, 0, rfl, hB.same, (ISl.null _ _ _), H⟩
 ·replace H := ifn h1 H
  refine GoR.op ((fun w => opB (op_eql rfl rfl w) (decide_eq_false h1)) _) rfl rfl ?_
  refine GoR.op ((op_move rfl) _) rfl rfl ?_
  refine GoR.op ((op_move rfl) _) rfl rfl ?_
  refine GoR.op ((op_move rfl) _) rfl rfl ?_
  refine GoR.op ((op_len Try.underlying35 rfl) _) rfl rfl ?_
  refine GoR.call (op_call body54 rfl (walk_word_Valid hO.lt hs_w_ H)) rfl rfl ?_
  rintro v6 w3 ⟨r2, rfl, hs4, H⟩
  have hst7 := Stp.same hO hs4
  replace hO := hst7.own
  replace h_gens := h_gens.ch hst7.ch
  replace hB := hB.trans hst7.fr
  cases r2
  ·replace H := ifn Bool.false_ne_true H
   refine GoR.op ((op_not rfl) _) rfl rfl ?_
   refine GoR.op ((op_pickF rfl rfl rfl) _) rfl rfl ?_
   refine GoR.nil ?_
   refine Go1.condT rfl rfl ?_
   refine Go1.seq ?_
   refine Go1.region ?_
   refine GoR.op ((op_assign rfl) _) rfl rfl ?_
   refine GoR.nil ?_
   refine Go1.ret1 Try.func29 rfl ?_
   exact ⟨([] : List Int), none, 0, rfl, hB.same, (ISl.null _ _ _), H⟩
  ·replace H := ifp rfl H
   refine GoR.op ((op_not rfl) _) rfl rfl ?_
   refine GoR.op ((op_pickF rfl rfl rfl) _) rfl rfl ?_
   refine GoR.nil ?_
   refine Go1.condF rfl rfl ?_
   refine Go1.skip ?_
   refine Go1.seq ?_
   refine Go1.seq ?_
   refine Go1.region ?_
   refine GoR.op ((op_move rfl) _) rfl rfl ?_
   refine GoR.op ((op_len Try.underlying35 rfl) _) rfl rfl ?_
   refine GoR.op ((op_move rfl) _) rfl rfl ?_
   refine GoR.nil ?_
   refine Go1.block ?_
   refine Go1.loopW (S := Nat) (fun s σ w => agrees σ [(0, .slice p_gens gens.length c_gens), (1, .string (gstr w_)), (20, .slice p_gens gens.length c_gens), (21, .int .i64 (gens.length : Int)), (22, .int .i64 (s : Int))] ∧ Owns w0.heap.size w [] A ∧ ISl (Rp.sl (Rp.int .i64)) (bl [] ++ A) w p_gens c_gens gens ∧ Fr (bl []) w0 (bl []) w) H ⟨⟨rfl, rfl, rfl, rfl, rfl, trivial⟩, hO, h_gens, hB⟩ ?_
   rintro X1 k1_9 H hX1 σ w8 ⟨hag, hO, h_gens, hB⟩
   refine Go1.keep [(0, .slice p_gens gens.length c_gens), (1, .string (gstr w_)), (20, .slice p_gens gens.length c_gens), (21, .int .i64 (gens.length : Int)), (22, .int .i64 (k1_9 : Int))] hag ?_
   refine Go1.seq ?_
   refine Go1.region ?_
   by_cases h10 : (k1_9 : Int) < (gens.length : Int)
   ·replace H := ifp h10 H
    refine GoR.op ((fun w => opB (op_lss rfl rfl w) (decide_eq_true h10)) _) rfl rfl ?_
    refine GoR.nil ?_
    refine Go1.seq ?_
    refine Go1.condT rfl rfl ?_
    refine Go1.skip ?_
    refine Go1.seq ?_
    refine Go1.block ?_
    refine Go1.seq ?_
    refine Go1.region ?_
    obtain ⟨h11, H⟩ := H
    obtain ⟨h12, H⟩ := H
    refine GoR.op ((op_index Try.underlying35 ti22 rfl rfl h11 h12 (h_gens.some_ h11 h12)) _) rfl rfl ?_
    have hobt := ldSl h_gens h11 h12
    obtain ⟨p13, c14, hi15, hl16⟩ := hobt
    refine GoR.op ((hl16 Try.underlying22 rfl rfl) _ (Same.refl _)) rfl rfl ?_
    refine GoR.op ((op_assign rfl) _) rfl rfl ?_
    refine GoR.nil ?_
    refine Go1.seq ?_
    refine Go1.region ?_
    refine GoR.op ((op_move rfl) _) rfl rfl ?_
    refine GoR.op ((op_len Try.underlying22 rfl) _) rfl rfl ?_
    replace H := H hi15.bd
    refine GoR.op ((op_move rfl) _) rfl rfl ?_
    obtain ⟨h17, H⟩ := H
    obtain ⟨h18, H⟩ := H
    refine GoR.op ((op_index Try.underlying35 ti22 rfl rfl h17 h18 (h_gens.some_ h17 h18)) _) rfl rfl ?_
    have hobt := ldSl h_gens h17 h18
    obtain ⟨p19, c20, hi21, hl22⟩ := hobt
    refine GoR.op ((hl22 Try.underlying22 rfl rfl) _ (Same.refl _)) rfl rfl ?_
    refine GoR.op ((op_len Try.underlying22 rfl) _) rfl rfl ?_
    replace H := H hi21.bd
    by_cases h23 : ((ix gens (k1_9 : Int)).length : Int) = ((ix gens (0 : Int)).length : Int)
    ·replace H := ifp h23 H
     refine GoR.op ((fun w => opB (op_neq rfl rfl w) (ndT h23)) _) rfl rfl ?_
     refine GoR.op ((op_move rfl) _) rfl rfl ?_
     refine GoR.op ((op_move rfl) _) rfl rfl ?_
     refine GoR.call (op_call body21 rfl (walk_trans_Valid hO.lt hi15 H)) rfl rfl ?_
     rintro v28 w25 ⟨r24, rfl, hs26, H⟩
     have hst29 := Stp.same hO hs26
     replace hO := hst29.own
     replace h_gens := h_gens.ch hst29.ch
     replace hi15 := hi15.ch hst29.ch
     replace hi21 := hi21.ch hst29.ch
     replace hB := hB.trans hst29.fr
     cases r24
     ·replace H := ifn Bool.false_ne_true H
      refine GoR.op ((op_not rfl) _) rfl rfl ?_
      refine GoR.op ((op_pickF rfl rfl rfl) _) rfl rfl ?_
      refine GoR.nil ?_
      refine Go1.condT rfl rfl ?_
      refine Go1.seq ?_
      refine Go1.region ?_
      refine GoR.op ((op_assign rfl) _) rfl rfl ?_
      refine GoR.nil ?_
      refine Go1.ret1 Try.func29 rfl ?_
      exact ⟨([] : List Int), none, 0, rfl, hB.same, (ISl.null _ _ _), H⟩
     ·replace H := ifp rfl H
      refine GoR.op ((op_not rfl) _) rfl rfl ?_
      refine GoR.op ((op_pickF rfl rfl rfl) _) rfl rfl ?_
      refine GoR.nil ?_
      refine Go1.condF rfl rfl ?_
      refine Go1.skip ?_
      refine Go1.inBlock ?_
      refine Go1.region ?_
      refine GoR.op ((op_add rfl rfl (wrap_i64 (natbd h10 h_gens.bd))) _) rfl rfl ?_
      refine GoR.op ((op_move rfl) _) rfl rfl ?_
      refine GoR.nil ?_
      exact hX1 _ H _ _ ⟨⟨rfl, rfl, rfl, rfl, rfl, trivial⟩, hO, h_gens, hB⟩
    ·replace H := ifn h23 H
     refine GoR.op ((fun w => opB (op_neq rfl rfl w) (ndF h23)) _) rfl rfl ?_
     refine GoR.op ((op_move rfl) _) rfl rfl ?_
     refine GoR.pass rfl rfl ?_
     refine GoR.pass rfl rfl ?_
     refine GoR.pass rfl rfl ?_
     refine GoR.op ((op_pickT rfl rfl rfl) _) rfl rfl ?_
     refine GoR.nil ?_
     refine Go1.condT rfl rfl ?_
     refine Go1.seq ?_
     refine Go1.region ?_
     refine GoR.op ((op_assign rfl) _) rfl rfl ?_
     refine GoR.nil ?_
     refine Go1.ret1 Try.func29 rfl ?_
     exact ⟨([] : List Int), none, 0, rfl, hB.same, (ISl.null _ _ _), H⟩
   ·replace H := ifn h10 H
    refine GoR.op ((fun w => opB (op_lss rfl rfl w) (decide_eq_false h10)) _) rfl rfl ?_
    refine GoR.nil ?_
    refine Go1.seq ?_
    refine Go1.condF rfl rfl ?_
    refine Go1.exit rfl ?_
    refine Go1.seq ?_
    refine Go1.region ?_
    refine GoR.op ((op_move rfl) _) rfl rfl ?_
    obtain ⟨h30, H⟩ := H
    obtain ⟨h31, H⟩ := H
    refine GoR.op ((op_index Try.underlying35 ti22 rfl rfl h30 h31 (h_gens.some_ h30 h31)) _) rfl rfl ?_
    have hobt := ldSl h_gens h30 h31
    obtain ⟨p32, c33, hi34, hl35⟩ := hobt
    refine GoR.op ((hl35 Try.underlying22 rfl rfl) _ (Same.refl _)) rfl rfl ?_
    refine GoR.op ((op_len Try.underlying22 rfl) _) rfl rfl ?_
    replace H := H hi34.bd
    refine GoR.call (op_call body20 rfl (walk_trans_Identity hO.lt H)) rfl rfl ?_
    rintro v40 w37 ⟨r36, p_r36, c_r36, rfl, hs38, h_r36, H⟩
    have hst41 := Stp.same hO hs38
    replace hO := hst41.own
    replace h_gens := h_gens.ch hst41.ch
    replace hi34 := hi34.ch hst41.ch
    replace hB := hB.trans hst41.fr
    refine GoR.op ((op_assign rfl) _) rfl rfl ?_
    refine GoR.nil ?_
    refine Go1.seq ?_
    refine Go1.seq ?_
    refine Go1.region ?_
    refine GoR.op ((op_move rfl) _) rfl rfl ?_
    have hobt := orange (s := w_) Try.underlying9 hO
    obtain ⟨w42, B43, hst44, hs45, hop46⟩ := hobt
    refine GoR.op (hop46 rfl) rfl rfl ?_
    replace hO := hst44.own
    replace h_gens := h_gens.ch hst44.ch
    replace hi34 := hi34.ch hst44.ch
    replace h_r36 := h_r36.ch hst44.ch
    replace hB := hB.trans hst44.fr
    refine GoR.nil ?_
    refine Go1.block ?_
    refine Go1.loopW (S := List Int × Nat) (fun s σ w => ∃ (p50 : Option Addr), ∃ (c51 : Nat), agrees σ [(0, .slice p_gens gens.length c_gens), (7, .slice p50 (s.1).length c51), (45, .pointer (some ⟨B43, 0, none⟩))] ∧ Owns w0.heap.size w [.blk B43 (.stringIter (gstr w_) (s.2))] A ∧ ISl (Rp.sl (Rp.int .i64)) (bl [.blk B43 (.stringIter (gstr w_) (s.2))] ++ A) w p_gens c_gens gens ∧ ISl (Rp.int .i64) (bl [.blk B43 (.stringIter (gstr w_) (s.2))] ++ A) w p50 c51 (s.1) ∧ Fr (bl []) w0 (bl [.blk B43 (.stringIter (gstr w_) (s.2))]) w) H ⟨p_r36, c_r36, ⟨rfl, rfl, rfl, trivial⟩, hO, h_gens, h_r36, hB⟩ ?_
    rintro X2 ⟨f2_49, i2_53⟩ H hX2 σ w48 ⟨p50, c51, hag, hO, h_gens, hi52, hB⟩
    dsimp only at H
    refine Go1.keep [(0, .slice p_gens gens.length c_gens), (7, .slice p50 f2_49.length c51), (45, .pointer (some ⟨B43, 0, none⟩))] hag ?_
    refine Go1.seq ?_
    refine Go1.region ?_
    by_cases h54 : (i2_53 : Int) < (w_.length : Int)
    ·replace H := ifp h54 H
     obtain ⟨h55, H⟩ := H
     have hobt := onext 0 hO rfl h54 h55
     obtain ⟨w56, hst57, hop58⟩ := hobt
     refine GoR.op (hop58 rfl) rfl rfl ?_
     replace hO := hst57.own
     replace h_gens := h_gens.ch hst57.ch
     replace hi52 := hi52.ch hst57.ch
     replace hB := hB.trans hst57.fr
     refine GoR.op ((op_extract rfl rfl) _) rfl rfl ?_
     refine GoR.nil ?_
     refine Go1.seq ?_
     refine Go1.condT rfl rfl ?_
     refine Go1.skip ?_
     refine Go1.block ?_
     refine Go1.seq ?_
     refine Go1.region ?_
     refine GoR.op ((op_extract rfl rfl) _) rfl rfl ?_
     refine GoR.op ((op_assign rfl) _) rfl rfl ?_
     refine GoR.nil ?_
     refine Go1.region ?_
     refine GoR.op ((op_move rfl) _) rfl rfl ?_
     refine GoR.op ((op_move rfl) _) rfl rfl ?_
     refine GoR.op ((op_move rfl) _) rfl rfl ?_
     refine GoR.op ((op_sub rfl rfl rfl) _) rfl rfl ?_
     obtain ⟨h59, H⟩ := H
     obtain ⟨h60, H⟩ := H
     refine GoR.op ((op_index Try.underlying35 ti22 rfl rfl h59 h60 (h_gens.some_ h59 h60)) _) rfl rfl ?_
     have hobt := ldSl h_gens h59 h60
     obtain ⟨p61, c62, hi63, hl64⟩ := hobt
     refine GoR.op ((hl64 Try.underlying22 rfl rfl) _ (Same.refl _)) rfl rfl ?_
     refine GoR.call (op_call body15 rfl (walk_trans_Compose hO.lt hi52 hi63 H)) rfl rfl ?_
     rintro v69 w66 ⟨r65, p_r65, c_r65, rfl, hs67, h_r65, H⟩
     have hst70 := Stp.same hO hs67
     replace hO := hst70.own
     replace h_gens := h_gens.ch hst70.ch
     replace hi52 := hi52.ch hst70.ch
     replace hi63 := hi63.ch hst70.ch
     replace hB := hB.trans hst70.fr
     refine GoR.op ((op_assign rfl) _) rfl rfl ?_
     refine GoR.nil ?_
     refine Go1.inBlock ?_
     exact hX2 _ H _ _ ⟨p_r65, c_r65, ⟨rfl, rfl, rfl, trivial⟩, hO, h_gens, h_r65, hB⟩
    ·replace H := ifn h54 H
     refine GoR.op (onextEnd 0 hO rfl h54 rfl) rfl rfl ?_
     refine GoR.op ((op_extract rfl rfl) _) rfl rfl ?_
     refine GoR.nil ?_
     refine Go1.seq ?_
     refine Go1.condF rfl rfl ?_
     refine Go1.exit rfl ?_
     refine Go1.seq ?_
     refine Go1.region ?_
     refine GoR.op ((op_move rfl) _) rfl rfl ?_
     refine GoR.op ((op_assign rfl) _) rfl rfl ?_
     refine GoR.nil ?_
     refine Go1.ret1 Try.func29 rfl ?_
     exact ⟨f2_49, p50, c51, rfl, hB.same, (hi52.ch (Ch.weak _ _ _)), H⟩
theorem body30 : Body Try.prog 30 := ⟨Try.f30, Try.func30, rfl, by kernel_rfl⟩
theorem walk_ref11_MayGens {A : List Nat} {w0 : World} {p_gens : Option Addr} {c_gens : Nat} {gens : List (List Int)} (hA : ∀ b ∈ A, b < w0.heap.size) (h_gens : ISl (Rp.sl (Rp.int .i64)) A w0 p_gens c_gens gens) {K : Bool → Prop} (H : ref11_MayGens gens K) :
    CallsV Try.prog 30 #[.slice p_gens gens.length c_gens] w0 (fun v w' => ∃ (r0 : Bool), v = .bool r0 ∧ Same w0 w' ∧ K r0) := by
 refine CallsV.of (l := [.slice p_gens gens.length c_gens]) Try.func30 rfl Try.ntmps30 rfl ?_
 have hO := Owns.start hA
 have hB := Fr.refl (bl []) w0
 unfold ref11_MayGens at H
 replace h_gens := h_gens.ch (Ch.start A w0)
 refine Go1.seq ?_
 refine Go1.region ?_
 refine GoR.op ((op_assign rfl) _) rfl rfl ?_
 refine GoR.nil ?_
 refine Go1.seq ?_
 refine Go1.seq ?_
 refine Go1.region ?_
 refine GoR.op ((op_move rfl) _) rfl rfl ?_
 refine GoR.op ((op_len Try.underlying35 rfl) _) rfl rfl ?_
 replace H := H h_gens.bd
 by_cases h1 : (gens.length : Int) < (1 : Int)
 ·replace H := ifp h1 H
  refine GoR.op ((fun w => opB (op_lss rfl rfl w) (decide_eq_true h1)) _) rfl rfl ?_
  refine GoR.op ((op_move rfl) _) rfl rfl ?_
  refine GoR.pass rfl rfl ?_
  refine GoR.pass rfl rfl ?_
  refine GoR.pass rfl rfl ?_
  refine GoR.op ((op_pickT rfl rfl rfl) _) rfl rfl ?_
  refine GoR.nil ?_
  refine Go1.condT rfl rfl ?_
  refine Go1.seq ?_
  refine Go1.region ?_
  refine GoR.op ((op_assign rfl) _) rfl rfl ?_
  refine GoR.nil ?_
  refine Go1.ret1 Try.func30 rfl ?_
  exact ⟨false, rfl, hB.same, H⟩
 ·replace H := ifn h1 H
  refine GoR.op ((fun w => opB (op_lss rfl rfl w) (decide_eq_false h1)) _) rfl rfl ?_
  refine GoR.op ((op_move rfl) _) rfl rfl ?_
  refine GoR.op ((op_move rfl) _) rfl rfl ?_
  refine GoR.op ((op_len Try.underlying35 rfl) _) rfl rfl ?_
  by_cases h2 : (6 : Int) < (gens.length : Int)
  ·replace H := ifp h2 H
   refine GoR.op ((fun w => opB (op_gtr rfl rfl w) (decide_eq_true h2)) _) rfl rfl ?_
   refine GoR.op ((op_pickF rfl rfl rfl) _) rfl rfl ?_
   refine GoR.nil ?_
   refine Go1.condT rfl rfl ?_
   refine Go1.seq ?_
   refine Go1.region ?_
   refine GoR.op ((op_assign rfl) _) rfl rfl ?_
   refine GoR.nil ?_
   refine Go1.ret1 Try.func30 rfl ?_
   exact ⟨false, rfl, hB.same, H⟩
  ·replace H := ifn h2 H
   refine GoR.op ((fun w => opB (op_gtr rfl rfl w) (decide_eq_false h2)) _) rfl rfl ?_
   refine GoR.op ((op_pickF rfl rfl rfl) _) rfl rfl ?_
   refine GoR.nil ?_
   refine Go1.condF rfl rfl ?_
   refine Go1.skip ?_
   refine Go1.seq ?_
   refine Go1.seq ?_
   refine Go1.region ?_
   refine GoR.op ((op_move rfl) _) rfl rfl ?_
   refine GoR.op ((op_len Try.underlying35 rfl) _) rfl rfl ?_
   refine GoR.op ((op_move rfl) _) rfl rfl ?_
   refine GoR.nil ?_
   refine Go1.block ?_
   refine Go1.loopW (S := Nat) (fun s σ w => agrees σ [(0, .slice p_gens gens.length c_gens), (13, .slice p_gens gens.length c_gens), (14, .int .i64 (gens.length : Int)), (15, .int .i64 (s : Int))] ∧ Owns w0.heap.size w [] A ∧ ISl (Rp.sl (Rp.int .i64)) (bl [] ++ A) w p_gens c_gens gens ∧ Fr (bl []) w0 (bl []) w) H ⟨⟨rfl, rfl, rfl, rfl, trivial⟩, hO, h_gens, hB⟩ ?_
   rintro X1 k1_4 H hX1 σ w3 ⟨hag, hO, h_gens, hB⟩
   refine Go1.keep [(0, .slice p_gens gens.length c_gens), (13, .slice p_gens gens.length c_gens), (14, .int .i64 (gens.length : Int)), (15, .int .i64 (k1_4 : Int))] hag ?_
   refine Go1.seq ?_
   refine Go1.region ?_
   by_cases h5 : (k1_4 : Int) < (gens.length : Int)
   ·replace H := ifp h5 H
    refine GoR.op ((fun w => opB (op_lss rfl rfl w) (decide_eq_true h5)) _) rfl rfl ?_
    refine GoR.nil ?_
    refine Go1.seq ?_
    refine Go1.condT rfl rfl ?_
    refine Go1.skip ?_
    refine Go1.seq ?_
    refine Go1.block ?_
    refine Go1.seq ?_
    refine Go1.region ?_
    obtain ⟨h6, H⟩ := H
    obtain ⟨h7, H⟩ := H
    refine GoR.op ((op_index Try.underlying35 ti22 rfl rfl h6 h7 (h_gens.some_ h6 h7)) _) rfl rfl ?_
    have hobt := ldSl h_gens h6 h7
    obtain ⟨p8, c9, hi10, hl11⟩ := hobt
    refine GoR.op ((hl11 Try.underlying22 rfl rfl) _ (Same.refl _)) rfl rfl ?_
    refine GoR.op ((op_assign rfl) _) rfl rfl ?_
    refine GoR.nil ?_
    refine Go1.seq ?_
    refine Go1.region ?_
    refine GoR.op ((op_move rfl) _) rfl rfl ?_
    refine GoR.call (op_call body22 rfl (walk_ref11_Valid hO.lt hi10 H)) rfl rfl ?_
    rintro v16 w13 ⟨r12, rfl, hs14, H⟩
    have hst17 := Stp.same hO hs14
    replace hO := hst17.own
    replace h_gens := h_gens.ch hst17.ch
    replace hi10 := hi10.ch hst17.ch
    replace hB := hB.trans hst17.fr
    cases r12
    ·replace H := ifn Bool.false_ne_true H
     refine GoR.op ((op_not rfl) _) rfl rfl ?_
     refine GoR.op ((op_move rfl) _) rfl rfl ?_
     refine GoR.pass rfl rfl ?_
     refine GoR.pass rfl rfl ?_
     refine GoR.pass rfl rfl ?_
     refine GoR.pass rfl rfl ?_
     refine GoR.pass rfl rfl ?_
     refine GoR.pass rfl rfl ?_
     refine GoR.pass rfl rfl ?_
     refine GoR.op ((op_pickT rfl rfl rfl) _) rfl rfl ?_
     refine GoR.nil ?_
     refine Go1.condT rfl rfl ?_
     refine Go1.seq ?_
     refine Go1.region ?_
     refine GoR.op ((op_assign rfl) _) rfl rfl ?_
     refine GoR.nil ?_
     refine Go1.ret1 Try.func30 rfl ?_
     exact ⟨false, rfl, hB.same, H⟩
    ·replace H := ifp rfl H
     refine GoR.op ((op_not rfl) _) rfl rfl ?_
     refine GoR.op ((op_move rfl) _) rfl rfl ?_
     refine GoR.op ((op_move rfl) _) rfl rfl ?_
     refine GoR.op ((op_len Try.underlying22 rfl) _) rfl rfl ?_
     replace H := H hi10.bd
     refine GoR.op ((op_move rfl) _) rfl rfl ?_
     obtain ⟨h18, H⟩ := H
     obtain ⟨h19, H⟩ := H
     refine GoR.op ((op_index Try.underlying35 ti22 rfl rfl h18 h19 (h_gens.some_ h18 h19)) _) rfl rfl ?_
     have hobt := ldSl h_gens h18 h19
     obtain ⟨p20, c21, hi22, hl23⟩ := hobt
     refine GoR.op ((hl23 Try.underlying22 rfl rfl) _ (Same.refl _)) rfl rfl ?_
     refine GoR.op ((op_len Try.underlying22 rfl) _) rfl rfl ?_
     replace H := H hi22.bd
     by_cases h24 : ((ix gens (k1_4 : Int)).length : Int) = ((ix gens (0 : Int)).length : Int)
     ·replace H := ifp h24 H
      refine GoR.op ((fun w => opB (op_neq rfl rfl w) (ndT h24)) _) rfl rfl ?_
      refine GoR.op ((op_pickF rfl rfl rfl) _) rfl rfl ?_
      refine GoR.nil ?_
      refine Go1.condF rfl rfl ?_
      refine Go1.skip ?_
      refine Go1.inBlock ?_
      refine Go1.region ?_
      refine GoR.op ((op_add rfl rfl (wrap_i64 (natbd h5 h_gens.bd))) _) rfl rfl ?_
      refine GoR.op ((op_move rfl) _) rfl rfl ?_
      refine GoR.nil ?_
      exact hX1 _ H _ _ ⟨⟨rfl, rfl, rfl, rfl, trivial⟩, hO, h_gens, hB⟩
     ·replace H := ifn h24 H
      refine GoR.op ((fun w => opB (op_neq rfl rfl w) (ndF h24)) _) rfl rfl ?_
      refine GoR.op ((op_pickF rfl rfl rfl) _) rfl rfl ?_
      refine GoR.nil ?_
      refine Go1.condT rfl rfl ?_
      refine Go1.seq ?_
      refine Go1.region ?_
      refine GoR.op ((op_assign rfl) _) rfl rfl ?_
      refine GoR.nil ?_
      refine Go1.ret1 Try.func30 rfl ?_
      exact ⟨false, rfl, hB.same, H⟩
   ·replace H := ifn h5 H
    refine GoR.op ((fun w => opB (op_lss rfl rfl w) (decide_eq_false h5)) _) rfl rfl ?_
    refine GoR.nil ?_
    refine Go1.seq ?_
    refine Go1.condF rfl rfl ?_
    refine Go1.exit rfl ?_
    refine Go1.seq ?_
    refine Go1.region ?_
    refine GoR.op ((op_assign rfl) _) rfl rfl ?_
    refine GoR.nil ?_
    refine Go1.ret1 Try.func30 rfl ?_
    exact ⟨true, rfl, hB.same, H⟩
theorem body55 : Body Try.prog 55 := ⟨Try.f55, Try.func55, rfl, by kernel_rfl⟩
theorem walk_ref01_MayLetters {A : List Nat} {w0 : World} {letters : Int} (hA : ∀ b ∈ A, b < w0.heap.size) {K : Bool → Prop} (H : ref01_MayLetters letters K) :
    CallsV Try.prog 55 #[.int .i64 letters] w0 (fun v w' => ∃ (r0 : Bool), v = .bool r0 ∧ Same w0 w' ∧ K r0) := by
 refine CallsV.of (l := [.int .i64 letters]) Try.func55 rfl Try.ntmps55 rfl ?_
 have hO := Owns.start hA
 have hB := Fr.refl (bl []) w0
 unfold ref01_MayLetters at H
 refine Go1.seq ?_
 refine Go1.region ?_
 refine GoR.op ((op_assign rfl) _) rfl rfl ?_
 refine GoR.nil ?_
 refine Go1.seq ?_
 refine Go1.region ?_
 refine GoR.op ((op_move rfl) _) rfl rfl ?_
 by_cases h1 : (1 : Int) ≤ letters
 ·replace H := ifp h1 H
  refine GoR.op ((fun w => opB (op_geq rfl rfl w) (decide_eq_true h1)) _) rfl rfl ?_
  refine GoR.op ((op_move rfl) _) rfl rfl ?_
  refine GoR.op ((op_move rfl) _) rfl rfl ?_
  by_cases h2 : letters ≤ (6 : Int)
  ·replace H := ifp h2 H
   refine GoR.op ((fun w => opB (op_leq rfl rfl w) (decide_eq_true h2)) _) rfl rfl ?_
   refine GoR.op ((op_pickT rfl rfl rfl) _) rfl rfl ?_
   refine GoR.op ((op_assign rfl) _) rfl rfl ?_
   refine GoR.nil ?_
   refine Go1.ret1 Try.func55 rfl ?_
   exact ⟨true, rfl, hB.same, H⟩
  ·replace H := ifn h2 H
   refine GoR.op ((fun w => opB (op_leq rfl rfl w) (decide_eq_false h2)) _) rfl rfl ?_
   refine GoR.op ((op_pickT rfl rfl rfl) _) rfl rfl ?_
   refine GoR.op ((op_assign rfl) _) rfl rfl ?_
   refine GoR.nil ?_
   refine Go1.ret1 Try.func55 rfl ?_
   exact ⟨false, rfl, hB.same, H⟩
 ·replace H := ifn h1 H
  refine GoR.op ((fun w => opB (op_geq rfl rfl w) (decide_eq_false h1)) _) rfl rfl ?_
  refine GoR.op ((op_move rfl) _) rfl rfl ?_
  refine GoR.pass rfl rfl ?_
  refine GoR.pass rfl rfl ?_
  refine GoR.op ((op_pickF rfl rfl rfl) _) rfl rfl ?_
  refine GoR.op ((op_assign rfl) _) rfl rfl ?_
  refine GoR.nil ?_
  refine Go1.ret1 Try.func55 rfl ?_
  exact ⟨false, rfl, hB.same, H⟩
theorem body31 : Body Try.prog 31 := ⟨Try.f31, Try.func31, rfl, by kernel_rfl⟩
theorem walk_ref01_Valid {A : List Nat} {w0 : World} {w_ : Str} {letters : Int} (hA : ∀ b ∈ A, b < w0.heap.size) (hs_w_ : w_.length ≤ mx) {K : Bool → Prop} (H : ref01_Valid w_ letters K) :
    CallsV Try.prog 31 #[.string (gstr w_), .int .i64 letters] w0 (fun v w' => ∃ (r0 : Bool), v = .bool r0 ∧ Same w0 w' ∧ K r0) := by
 refine CallsV.of (l := [.string (gstr w_), .int .i64 letters]) Try.func31 rfl Try.ntmps31 rfl ?_
 have hO := Owns.start hA
 have hB := Fr.refl (bl []) w0
 unfold ref01_Valid at H
 refine Go1.seq ?_
 refine Go1.region ?_
 refine GoR.op ((op_assign rfl) _) rfl rfl ?_
 refine GoR.nil ?_
 refine Go1.seq ?_
 refine Go1.seq ?_
 refine Go1.region ?_
 refine GoR.op ((op_move rfl) _) rfl rfl ?_
 refine GoR.call (op_call body55 rfl (walk_ref01_MayLetters hO.lt H)) rfl rfl ?_
 rintro v5 w2 ⟨r1, rfl, hs3, H⟩
 have hst6 := Stp.same hO hs3
 replace hO := hst6.own
 replace hB := hB.trans hst6.fr
 cases r1
 ·replace H := ifn Bool.false_ne_true H
  refine GoR.op ((op_not rfl) _) rfl rfl ?_
  refine GoR.op ((op_move rfl) _) rfl rfl ?_
  refine GoR.pass rfl rfl ?_
  refine GoR.pass rfl rfl ?_
  refine GoR.pass rfl rfl ?_
  refine GoR.op ((op_pickT rfl rfl rfl) _) rfl rfl ?_
  refine GoR.nil ?_
  refine Go1.condT rfl rfl ?_
  refine Go1.seq ?_
  refine Go1.region ?_
  refine GoR.op ((op_assign rfl) _) rfl rfl ?_
  refine GoR.nil ?_
  refine Go1.ret1 Try.func31 rfl ?_
  exact ⟨false, rfl, hB.same, H⟩
 ·replace H := ifp rfl H
  refine GoR.op ((op_not rfl) _) rfl rfl ?_
  refine GoR.op ((op_move rfl) _) rfl rfl ?_
  refine GoR.op ((op_move rfl) _) rfl rfl ?_
  refine GoR.op ((op_lenS Try.underlying9 rfl) _) rfl rfl ?_
  replace H := H hs_w_
  by_cases h7 : (2048 : Int) < (w_.length : Int)
  ·replace H := ifp h7 H
   refine GoR.op ((fun w => opB (op_gtr rfl rfl w) (decide_eq_true h7)) _) rfl rfl ?_
   refine GoR.op ((op_pickF rfl rfl rfl) _) rfl rfl ?_
   refine GoR.nil ?_
   refine Go1.condT rfl rfl ?_
   refine Go1.seq ?_
   refine Go1.region ?_
   refine GoR.op ((op_assign rfl) _) rfl rfl ?_
   refine GoR.nil ?_
   refine Go1.ret1 Try.func31 rfl ?_
   exact ⟨false, rfl, hB.same, H⟩
  ·replace H := ifn h7 H
   refine GoR.op ((fun w => opB (op_gtr rfl rfl w) (decide_eq_false h7)) _) rfl rfl ?_
   refine GoR.op ((op_pickF rfl rfl rfl) _) rfl rfl ?_
   refine GoR.nil ?_
   refine Go1.condF rfl rfl ?_
   refine Go1.skip ?_
   refine Go1.seq ?_
   refine Go1.seq ?_
   refine Go1.region ?_
   refine GoR.op ((op_assign rfl) _) rfl rfl ?_
   refine GoR.nil ?_
   refine Go1.block ?_
   refine Go1.loopW (S := Nat) (fun s σ w => agrees σ [(0, .string (gstr w_)), (1, .int .i64 letters), (5, .int .i64 (s : Int))] ∧ Owns w0.heap.size w [] A ∧ Fr (bl []) w0 (bl []) w) H ⟨⟨rfl, rfl, rfl, trivial⟩, hO, hB⟩ ?_
   rintro X1 i1_9 H hX1 σ w8 ⟨hag, hO, hB⟩
   refine Go1.keep [(0, .string (gstr w_)), (1, .int .i64 letters), (5, .int .i64 (i1_9 : Int))] hag ?_
   refine Go1.seq ?_
   refine Go1.seq ?_
   refine Go1.region ?_
   refine GoR.op ((op_move rfl) _) rfl rfl ?_
   refine GoR.op ((op_move rfl) _) rfl rfl ?_
   refine GoR.op ((op_lenS Try.underlying9 rfl) _) rfl rfl ?_
   by_cases h10 : (i1_9 : Int) < (w_.length : Int)
   ·replace H := ifp h10 H
    refine GoR.op ((fun w => opB (op_lss rfl rfl w) (decide_eq_true h10)) _) rfl rfl ?_
    refine GoR.nil ?_
    refine Go1.condT rfl rfl ?_
    refine Go1.skip ?_
    refine Go1.seq ?_
    refine Go1.block ?_
    refine Go1.seq ?_
    refine Go1.region ?_
    refine GoR.op ((op_move rfl) _) rfl rfl ?_
    refine GoR.op ((op_move rfl) _) rfl rfl ?_
    obtain ⟨h11, H⟩ := H
    obtain ⟨h12, H⟩ := H
    refine GoR.op ((op_indexS Try.underlying9 rfl rfl h11 h12) _) rfl rfl ?_
    by_cases h13 : ((ix w_ (i1_9 : Int)).toNat : Int) < (97 : Int)
    ·replace H := ifp h13 H
     refine GoR.op ((fun w => opB (op_lss rfl rfl w) (decide_eq_true h13)) _) rfl rfl ?_
     refine GoR.op ((op_move rfl) _) rfl rfl ?_
     refine GoR.pass rfl rfl ?_
     refine GoR.pass rfl rfl ?_
     refine GoR.pass rfl rfl ?_
     refine GoR.pass rfl rfl ?_
     refine GoR.pass rfl rfl ?_
     refine GoR.pass rfl rfl ?_
     refine GoR.pass rfl rfl ?_
     refine GoR.op ((op_pickT rfl rfl rfl) _) rfl rfl ?_
     refine GoR.nil ?_
     refine Go1.condT rfl rfl ?_
     refine Go1.seq ?_
     refine Go1.region ?_
     refine GoR.op ((op_assign rfl) _) rfl rfl ?_
     refine GoR.nil ?_
     refine Go1.ret1 Try.func31 rfl ?_
     exact ⟨false, rfl, hB.same, H⟩
    ·replace H := ifn h13 H
     refine GoR.op ((fun w => opB (op_lss rfl rfl w) (decide_eq_false h13)) _) rfl rfl ?_
     refine GoR.op ((op_move rfl) _) rfl rfl ?_
     refine GoR.op ((op_move rfl) _) rfl rfl ?_
     refine GoR.op ((op_move rfl) _) rfl rfl ?_
     obtain ⟨h14, H⟩ := H
     obtain ⟨h15, H⟩ := H
     refine GoR.op ((op_indexS Try.underlying9 rfl rfl h14 h15) _) rfl rfl ?_
     refine GoR.op ((op_sub rfl rfl rfl) _) rfl rfl ?_
     refine GoR.op ((op_conv Try.underlying5 Try.underlying3 rfl rfl) _) rfl rfl ?_
     refine GoR.op ((op_move rfl) _) rfl rfl ?_
     by_cases h16 : letters ≤ (IntKind.i64.wrap (IntKind.u8.wrap (((ix w_ (i1_9 : Int)).toNat : Int) - (97 : Int))))
     ·replace H := ifp h16 H
      refine GoR.op ((fun w => opB (op_geq rfl rfl w) (decide_eq_true h16)) _) rfl rfl ?_
      refine GoR.op ((op_pickF rfl rfl rfl) _) rfl rfl ?_
      refine GoR.nil ?_
      refine Go1.condT rfl rfl ?_
      refine Go1.seq ?_
      refine Go1.region ?_
      refine GoR.op ((op_assign rfl) _) rfl rfl ?_
      refine GoR.nil ?_
      refine Go1.ret1 Try.func31 rfl ?_
      exact ⟨false, rfl, hB.same, H⟩
     ·replace H := ifn h16 H
      refine GoR.op ((fun w => opB (op_geq rfl rfl w) (decide_eq_false h16)) _) rfl rfl ?_
      refine GoR.op ((op_pickF rfl rfl rfl) _) rfl rfl ?_
      refine GoR.nil ?_
      refine Go1.condF rfl rfl ?_
      refine Go1.skip ?_
      refine Go1.inBlock ?_
      refine Go1.region ?_
      refine GoR.op ((op_move rfl) _) rfl rfl ?_
      refine GoR.op ((op_add rfl rfl (wrap_i64 (natbd h10 hs_w_))) _) rfl rfl ?_
      refine GoR.op ((op_assign rfl) _) rfl rfl ?_
      refine GoR.nil ?_
      exact hX1 _ H _ _ ⟨⟨rfl, rfl, rfl, trivial⟩, hO, hB⟩
   ·replace H := ifn h10 H
    refine GoR.op ((fun w => opB (op_lss rfl rfl w) (decide_eq_false h10)) _) rfl rfl ?_
    refine GoR.nil ?_
    refine Go1.condF rfl rfl ?_
    refine Go1.exit rfl ?_
    refine Go1.seq ?_
    refine Go1.region ?_
    refine GoR.op ((op_assign rfl) _) rfl rfl ?_
    refine GoR.nil ?_
    refine Go1.ret1 Try.func31 rfl ?_
    exact ⟨true, rfl, hB.same, H⟩
theorem body32 : Body Try.prog 32 := ⟨Try.f32, Try.func32, rfl, by kernel_rfl⟩
theorem walk_ref11_OfWord {A : List Nat} {w0 : World} {p_gens : Option Addr} {c_gens : Nat} {gens : List (List Int)} {w_ : Str} (hA : ∀ b ∈ A, b < w0.heap.size) (h_gens : ISl (Rp.sl (Rp.int .i64)) A w0 p_gens c_gens gens) (hs_w_ : w_.length ≤ mx) {K : List Int → Prop} (H : ref11_OfWord gens w_ K) :
    CallsV Try.prog 32 #[.slice p_gens gens.length c_gens, .string (gstr w_)] w0 (fun v w' => ∃ (r0 : List Int), ∃ (p_r0 : Option Addr), ∃ (c_r0 : Nat), v = .slice p_r0 r0.length c_r0 ∧ Same w0 w' ∧ ISl (Rp.int .i64) A w' p_r0 c_r0 r0 ∧ K r0) := by
 refine CallsV.of (l := [.slice p_gens gens.length c_gens, .string (gstr w_)]) Try.func32 rfl Try.ntmps32 rfl ?_
 have hO := Owns.start hA
 have hB := Fr.refl (bl []) w0
 unfold ref11_OfWord at H
 replace h_gens := h_gens.ch (Ch.start A w0)
 refine Go1.seq ?_
 refine Go1.region ?_
 refine GoR.op ((op_assign rfl) _) rfl rfl ?_
 refine GoR.nil ?_
 refine Go1.seq ?_
 refine Go1.seq ?_
 refine Go1.region ?_
 refine GoR.op ((op_move rfl) _) rfl rfl ?_
 refine GoR.op ((op_move rfl) _) rfl rfl ?_
 refine GoR.op ((op_len Try.underlying35 rfl) _) rfl rfl ?_
 replace H := H h_gens.bd
 refine GoR.call (op_call body31 rfl (walk_ref01_Valid hO.lt hs_w_ H)) rfl rfl ?_
 rintro v5 w2 ⟨r1, rfl, hs3, H⟩
 have hst6 := Stp.same hO hs3
 replace hO := hst6.own
 replace h_gens := h_gens.ch hst6.ch
 replace hB := hB.trans hst6.fr
 cases r1
 ·replace H := ifn Bool.false_ne_true H
  refine GoR.op ((op_not rfl) _) rfl rfl ?_
  refine GoR.nil ?_
  refine Go1.condT rfl rfl ?_
  refine Go1.seq ?_
  refine Go1.region ?_
  refine GoR.op ((op_assign rfl) _) rfl rfl ?_
  refine GoR.nil ?_
  refine Go1.ret1 Try.func32 rfl ?_
  exact ⟨([] : List Int), none, 0, rfl, hB.same, (ISl.null _ _ _), H⟩
 ·replace H := ifp rfl H
  refine GoR.op ((op_not rfl) _) rfl rfl ?_
  refine GoR.nil ?_
  refine Go1.condF rfl rfl ?_
  refine Go1.skip ?_
  refine Go1.seq ?_
  refine Go1.region ?_
  refine GoR.op ((op_move rfl) _) rfl rfl ?_
  obtain ⟨h7, H⟩ := H
  obtain ⟨h8, H⟩ := H
  refine GoR.op ((op_index Try.underlying35 ti22 rfl rfl h7 h8 (h_gens.some_ h7 h8)) _) rfl rfl ?_
  have hobt := ldSl h_gens h7 h8
  obtain ⟨p9, c10, hi11, hl12⟩ := hobt
  refine GoR.op ((hl12 Try.underlying22 rfl rfl) _ (Same.refl _)) rfl rfl ?_
  refine GoR.op ((op_len Try.underlying22 rfl) _) rfl rfl ?_
  replace H := H hi11.bd
  refine GoR.call (op_call body23 rfl (walk_ref03_Discrete hO.lt H)) rfl rfl ?_
  rintro v17 w14 ⟨r13, p_r13, c_r13, rfl, hs15, h_r13, H⟩
  have hst18 := Stp.same hO hs15
  replace hO := hst18.own
  replace h_gens := h_gens.ch hst18.ch
  replace hi11 := hi11.ch hst18.ch
  replace hB := hB.trans hst18.fr
  refine GoR.op ((op_assign rfl) _) rfl rfl ?_
  refine GoR.nil ?_
  refine Go1.seq ?_
  refine Go1.seq ?_
  refine Go1.region ?_
  refine GoR.op ((op_assign rfl) _) rfl rfl ?_
  refine GoR.nil ?_
  refine Go1.block ?_
  refine Go1.loopW (S := List Int × Nat) (fun s σ w => ∃ (p21 : Option Addr), ∃ (c22 : Nat), agrees σ [(0, .slice p_gens gens.length c_gens), (1, .string (gstr w_)), (5, .slice p21 (s.1).length c22), (6, .int .i64 ((s.2) : Int))] ∧ Owns w0.heap.size w [] A ∧ ISl (Rp.sl (Rp.int .i64)) (bl [] ++ A) w p_gens c_gens gens ∧ ISl (Rp.int .i64) (bl [] ++ A) w p21 c22 (s.1) ∧ Fr (bl []) w0 (bl []) w) H ⟨p_r13, c_r13, ⟨rfl, rfl, rfl, rfl, trivial⟩, hO, h_gens, h_r13, hB⟩ ?_
  rintro X1 ⟨out1_20, i1_24⟩ H hX1 σ w19 ⟨p21, c22, hag, hO, h_gens, hi23, hB⟩
  dsimp only at H
  refine Go1.keep [(0, .slice p_gens gens.length c_gens), (1, .string (gstr w_)), (5, .slice p21 out1_20.length c22), (6, .int .i64 (i1_24 : Int))] hag ?_
  refine Go1.seq ?_
  refine Go1.seq ?_
  refine Go1.region ?_
  refine GoR.op ((op_move rfl) _) rfl rfl ?_
  refine GoR.op ((op_move rfl) _) rfl rfl ?_
  refine GoR.op ((op_lenS Try.underlying9 rfl) _) rfl rfl ?_
  replace H := H hs_w_
  by_cases h25 : (i1_24 : Int) < (w_.length : Int)
  ·replace H := ifp h25 H
   refine GoR.op ((fun w => opB (op_lss rfl rfl w) (decide_eq_true h25)) _) rfl rfl ?_
   refine GoR.nil ?_
   refine Go1.condT rfl rfl ?_
   refine Go1.skip ?_
   refine Go1.seq ?_
   refine Go1.block ?_
   refine Go1.region ?_
   refine GoR.op ((op_move rfl) _) rfl rfl ?_
   refine GoR.op ((op_move rfl) _) rfl rfl ?_
   refine GoR.op ((op_move rfl) _) rfl rfl ?_
   refine GoR.op ((op_move rfl) _) rfl rfl ?_
   obtain ⟨h26, H⟩ := H
   obtain ⟨h27, H⟩ := H
   refine GoR.op ((op_indexS Try.underlying9 rfl rfl h26 h27) _) rfl rfl ?_
   refine GoR.op ((op_sub rfl rfl rfl) _) rfl rfl ?_
   refine GoR.op ((op_conv Try.underlying5 Try.underlying3 rfl rfl) _) rfl rfl ?_
   obtain ⟨h28, H⟩ := H
   obtain ⟨h29, H⟩ := H
   refine GoR.op ((op_index Try.underlying35 ti22 rfl rfl h28 h29 (h_gens.some_ h28 h29)) _) rfl rfl ?_
   have hobt := ldSl h_gens h28 h29
   obtain ⟨p30, c31, hi32, hl33⟩ := hobt
   refine GoR.op ((hl33 Try.underlying22 rfl rfl) _ (Same.refl _)) rfl rfl ?_
   refine GoR.call (op_call body19 rfl (walk_ref11_Compose hO.lt hi23 hi32 H)) rfl rfl ?_
   rintro v38 w35 ⟨r34, p_r34, c_r34, rfl, hs36, h_r34, H⟩
   have hst39 := Stp.same hO hs36
   replace hO := hst39.own
   replace h_gens := h_gens.ch hst39.ch
   replace hi23 := hi23.ch hst39.ch
   replace hi32 := hi32.ch hst39.ch
   replace hB := hB.trans hst39.fr
   refine GoR.op ((op_assign rfl) _) rfl rfl ?_
   refine GoR.nil ?_
   refine Go1.inBlock ?_
   refine Go1.region ?_
   refine GoR.op ((op_move rfl) _) rfl rfl ?_
   refine GoR.op ((op_add rfl rfl (wrap_i64 (natbd h25 hs_w_))) _) rfl rfl ?_
   refine GoR.op ((op_assign rfl) _) rfl rfl ?_
   refine GoR.nil ?_
   exact hX1 _ H _ _ ⟨p_r34, c_r34, ⟨rfl, rfl, rfl, rfl, trivial⟩, hO, h_gens, h_r34, hB⟩
  ·replace H := ifn h25 H
   refine GoR.op ((fun w => opB (op_lss rfl rfl w) (decide_eq_false h25)) _) rfl rfl ?_
   refine GoR.nil ?_
   refine Go1.condF rfl rfl ?_
   refine Go1.exit rfl ?_
   refine Go1.seq ?_
   refine Go1.region ?_
   refine GoR.op ((op_move rfl) _) rfl rfl ?_
   refine GoR.op ((op_assign rfl) _) rfl rfl ?_
   refine GoR.nil ?_
   refine Go1.ret1 Try.func32 rfl ?_
   exact ⟨out1_20, p21, c22, rfl, hB.same, (hi23.ch (Ch.weak _ _ _)), H⟩
theorem body7 : Body Try.prog 7 := ⟨Try.f7, Try.func7, rfl, by kernel_rfl⟩
theorem walk_law11_TransWords {A : List Nat} {w0 : World} {p_gens : Option Addr} {c_gens : Nat} {gens : List (List Int)} {u : Str} {w_ : Str} (hA : ∀ b ∈ A, b < w0.heap.size) (h_gens : ISl (Rp.sl (Rp.int .i64)) A w0 p_gens c_gens gens) (hs_u : u.length ≤ mx) (hs_w_ : w_.length ≤ mx) {K : Bool → Prop} (H : law11_TransWords gens u w_ K) :
    CallsV Try.prog 7 #[.slice p_gens gens.length c_gens, .string (gstr u), .string (gstr w_)] w0 (fun v w' => ∃ (r0 : Bool), v = .bool r0 ∧ Same w0 w' ∧ K r0) := by
 refine CallsV.of (l := [.slice p_gens gens.length c_gens, .string (gstr u), .string (gstr w_)]) Try.func7 rfl Try.ntmps7 rfl ?_
 have hO := Owns.start hA
 have hB := Fr.refl (bl []) w0
 unfold law11_TransWords at H
 replace h_gens := h_gens.ch (Ch.start A w0)
 refine Go1.seq ?_
 refine Go1.region ?_
 refine GoR.op ((op_assign rfl) _) rfl rfl ?_
 refine GoR.nil ?_
 refine Go1.seq ?_
 refine Go1.region ?_
 refine GoR.op ((op_move rfl) _) rfl rfl ?_
 refine GoR.op ((op_move rfl) _) rfl rfl ?_
 refine GoR.call (op_call body29 rfl (walk_trans_OfWord hO.lt h_gens hs_w_ H)) rfl rfl ?_
 rintro v5 w2 ⟨r1, p_r1, c_r1, rfl, hs3, h_r1, H⟩
 have hst6 := Stp.same hO hs3
 replace hO := hst6.own
 replace h_gens := h_gens.ch hst6.ch
 replace hB := hB.trans hst6.fr
 refine GoR.op ((op_assign rfl) _) rfl rfl ?_
 refine GoR.nil ?_
 refine Go1.seq ?_
 refine Go1.seq ?_
 refine Go1.region ?_
 refine GoR.op ((op_move rfl) _) rfl rfl ?_
 refine GoR.call (op_call body30 rfl (walk_ref11_MayGens hO.lt h_gens H)) rfl rfl ?_
 rintro v11 w8 ⟨r7, rfl, hs9, H⟩
 have hst12 := Stp.same hO hs9
 replace hO := hst12.own
 replace h_gens := h_gens.ch hst12.ch
 replace h_r1 := h_r1.ch hst12.ch
 replace hB := hB.trans hst12.fr
 cases r7
 ·replace H := ifn Bool.false_ne_true H
  refine GoR.op ((op_not rfl) _) rfl rfl ?_
  refine GoR.op ((op_move rfl) _) rfl rfl ?_
  refine GoR.pass rfl rfl ?_
  refine GoR.pass rfl rfl ?_
  refine GoR.pass rfl rfl ?_
  refine GoR.pass rfl rfl ?_
  refine GoR.pass rfl rfl ?_
  refine GoR.op ((op_pickT rfl rfl rfl) _) rfl rfl ?_
  refine GoR.nil ?_
  refine Go1.condT rfl rfl ?_
  refine Go1.seq ?_
  refine Go1.region ?_
  refine GoR.op ((op_move rfl) _) rfl rfl ?_
  refine GoR.op ((op_len Try.underlying22 rfl) _) rfl rfl ?_
  replace H := H h_r1.bd
  by_cases h13 : (r1.length : Int) = (0 : Int)
  ·replace H := ifp h13 H
   refine GoR.op ((fun w => opB (op_eql rfl rfl w) (decide_eq_true h13)) _) rfl rfl ?_
   refine GoR.op ((op_move rfl) _) rfl rfl ?_
   refine GoR.call (op_call body17 rfl (walk_law11_awake hO.lt H)) rfl rfl ?_
   rintro v18 w15 ⟨r14, rfl, hs16, H⟩
   have hst19 := Stp.same hO hs16
   replace hO := hst19.own
   replace h_gens := h_gens.ch hst19.ch
   replace h_r1 := h_r1.ch hst19.ch
   replace hB := hB.trans hst19.fr
   refine GoR.op ((op_pickT rfl rfl rfl) _) rfl rfl ?_
   refine GoR.op ((op_assign rfl) _) rfl rfl ?_
   refine GoR.nil ?_
   refine Go1.ret1 Try.func7 rfl ?_
   exact ⟨r14, rfl, hB.same, H⟩
  ·replace H := ifn h13 H
   refine GoR.op ((fun w => opB (op_eql rfl rfl w) (decide_eq_false h13)) _) rfl rfl ?_
   refine GoR.op ((op_move rfl) _) rfl rfl ?_
   refine GoR.pass rfl rfl ?_
   refine GoR.op ((op_pickF rfl rfl rfl) _) rfl rfl ?_
   refine GoR.op ((op_assign rfl) _) rfl rfl ?_
   refine GoR.nil ?_
   refine Go1.ret1 Try.func7 rfl ?_
   exact ⟨false, rfl, hB.same, H⟩
 ·replace H := ifp rfl H
  refine GoR.op ((op_not rfl) _) rfl rfl ?_
  refine GoR.op ((op_move rfl) _) rfl rfl ?_
  refine GoR.op ((op_move rfl) _) rfl rfl ?_
  refine GoR.op ((op_move rfl) _) rfl rfl ?_
  refine GoR.op ((op_len Try.underlying35 rfl) _) rfl rfl ?_
  replace H := H h_gens.bd
  refine GoR.call (op_call body31 rfl (walk_ref01_Valid hO.lt hs_w_ H)) rfl rfl ?_
  rintro v24 w21 ⟨r20, rfl, hs22, H⟩
  have hst25 := Stp.same hO hs22
  replace hO := hst25.own
  replace h_gens := h_gens.ch hst25.ch
  replace h_r1 := h_r1.ch hst25.ch
  replace hB := hB.trans hst25.fr
  cases r20
  ·replace H := ifn Bool.false_ne_true H
   refine GoR.op ((op_not rfl) _) rfl rfl ?_
   refine GoR.op ((op_pickF rfl rfl rfl) _) rfl rfl ?_
   refine GoR.nil ?_
   refine Go1.condT rfl rfl ?_
   refine Go1.seq ?_
   refine Go1.region ?_
   refine GoR.op ((op_move rfl) _) rfl rfl ?_
   refine GoR.op ((op_len Try.underlying22 rfl) _) rfl rfl ?_
   replace H := H h_r1.bd
   by_cases h26 : (r1.length : Int) = (0 : Int)
   ·replace H := ifp h26 H
    refine GoR.op ((fun w => opB (op_eql rfl rfl w) (decide_eq_true h26)) _) rfl rfl ?_
    refine GoR.op ((op_move rfl) _) rfl rfl ?_
    refine GoR.call (op_call body17 rfl (walk_law11_awake hO.lt H)) rfl rfl ?_
    rintro v31 w28 ⟨r27, rfl, hs29, H⟩
    have hst32 := Stp.same hO hs29
    replace hO := hst32.own
    replace h_gens := h_gens.ch hst32.ch
    replace h_r1 := h_r1.ch hst32.ch
    replace hB := hB.trans hst32.fr
    refine GoR.op ((op_pickT rfl rfl rfl) _) rfl rfl ?_
    refine GoR.op ((op_assign rfl) _) rfl rfl ?_
    refine GoR.nil ?_
    refine Go1.ret1 Try.func7 rfl ?_
    exact ⟨r27, rfl, hB.same, H⟩
   ·replace H := ifn h26 H
    refine GoR.op ((fun w => opB (op_eql rfl rfl w) (decide_eq_false h26)) _) rfl rfl ?_
    refine GoR.op ((op_move rfl) _) rfl rfl ?_
    refine GoR.pass rfl rfl ?_
    refine GoR.op ((op_pickF rfl rfl rfl) _) rfl rfl ?_
    refine GoR.op ((op_assign rfl) _) rfl rfl ?_
    refine GoR.nil ?_
    refine Go1.ret1 Try.func7 rfl ?_
    exact ⟨false, rfl, hB.same, H⟩
  ·replace H := ifp rfl H
   refine GoR.op ((op_not rfl) _) rfl rfl ?_
   refine GoR.op ((op_pickF rfl rfl rfl) _) rfl rfl ?_
   refine GoR.nil ?_
   refine Go1.condF rfl rfl ?_
   refine Go1.skip ?_
   refine Go1.seq ?_
   refine Go1.seq ?_
   refine Go1.region ?_
   refine GoR.op ((op_move rfl) _) rfl rfl ?_
   refine GoR.op ((op_move rfl) _) rfl rfl ?_
   refine GoR.op ((op_move rfl) _) rfl rfl ?_
   refine GoR.call (op_call body32 rfl (walk_ref11_OfWord hO.lt h_gens hs_w_ H)) rfl rfl ?_
   rintro v37 w34 ⟨r33, p_r33, c_r33, rfl, hs35, h_r33, H⟩
   have hst38 := Stp.same hO hs35
   replace hO := hst38.own
   replace h_gens := h_gens.ch hst38.ch
   replace h_r1 := h_r1.ch hst38.ch
   replace hB := hB.trans hst38.fr
   refine GoR.call (op_call body18 rfl (walk_ref03_Same hO.lt h_r1 h_r33 H)) rfl rfl ?_
   rintro v43 w40 ⟨r39, rfl, hs41, H⟩
   have hst44 := Stp.same hO hs41
   replace hO := hst44.own
   replace h_gens := h_gens.ch hst44.ch
   replace h_r1 := h_r1.ch hst44.ch
   replace h_r33 := h_r33.ch hst44.ch
   replace hB := hB.trans hst44.fr
   cases r39
   ·replace H := ifn Bool.false_ne_true H
    refine GoR.op ((op_not rfl) _) rfl rfl ?_
    refine GoR.nil ?_
    refine Go1.condT rfl rfl ?_
    refine Go1.seq ?_
    refine Go1.region ?_
    refine GoR.op ((op_assign rfl) _) rfl rfl ?_
    refine GoR.nil ?_
    refine Go1.ret1 Try.func7 rfl ?_
    exact ⟨false, rfl, hB.same, H⟩
   ·replace H := ifp rfl H
    refine GoR.op ((op_not rfl) _) rfl rfl ?_
    refine GoR.nil ?_
    refine Go1.condF rfl rfl ?_
    refine Go1.skip ?_
    refine Go1.seq ?_
    refine Go1.seq ?_
    refine Go1.region ?_
    refine GoR.op ((op_move rfl) _) rfl rfl ?_
    refine GoR.op ((op_move rfl) _) rfl rfl ?_
    obtain ⟨h45, H⟩ := H
    refine GoR.op ((op_addS rfl rfl h45) _) rfl rfl ?_
    refine GoR.op ((op_move rfl) _) rfl rfl ?_
    refine GoR.op ((op_len Try.underlying35 rfl) _) rfl rfl ?_
    refine GoR.call (op_call body31 rfl (walk_ref01_Valid hO.lt (lenApp h45) H)) rfl rfl ?_
    rintro v50 w47 ⟨r46, rfl, hs48, H⟩
    have hst51 := Stp.same hO hs48
    replace hO := hst51.own
    replace h_gens := h_gens.ch hst51.ch
    replace h_r1 := h_r1.ch hst51.ch
    replace h_r33 := h_r33.ch hst51.ch
    replace hB := hB.trans hst51.fr
    cases r46
    ·replace H := ifn Bool.false_ne_true H
     refine GoR.op ((op_not rfl) _) rfl rfl ?_
     refine GoR.nil ?_
     refine Go1.condT rfl rfl ?_
     refine Go1.seq ?_
     refine Go1.region ?_
     refine GoR.call (op_call body17 rfl (walk_law11_awake hO.lt H)) rfl rfl ?_
     rintro v56 w53 ⟨r52, rfl, hs54, H⟩
     have hst57 := Stp.same hO hs54
     replace hO := hst57.own
     replace h_gens := h_gens.ch hst57.ch
     replace h_r1 := h_r1.ch hst57.ch
     replace h_r33 := h_r33.ch hst57.ch
     replace hB := hB.trans hst57.fr
     refine GoR.op ((op_assign rfl) _) rfl rfl ?_
     refine GoR.nil ?_
     refine Go1.ret1 Try.func7 rfl ?_
     exact ⟨r52, rfl, hB.same, H⟩
    ·replace H := ifp rfl H
     refine GoR.op ((op_not rfl) _) rfl rfl ?_
     refine GoR.nil ?_
     refine Go1.condF rfl rfl ?_
     refine Go1.skip ?_
     refine Go1.seq ?_
     refine Go1.region ?_
     refine GoR.op ((op_move rfl) _) rfl rfl ?_
     refine GoR.op ((op_move rfl) _) rfl rfl ?_
     refine GoR.op ((op_move rfl) _) rfl rfl ?_
     obtain ⟨h58, H⟩ := H
     refine GoR.op ((op_addS rfl rfl h58) _) rfl rfl ?_
     refine GoR.call (op_call body29 rfl (walk_trans_OfWord hO.lt h_gens (lenApp h58) H)) rfl rfl ?_
     rintro v63 w60 ⟨r59, p_r59, c_r59, rfl, hs61, h_r59, H⟩
     have hst64 := Stp.same hO hs61
     replace hO := hst64.own
     replace h_gens := h_gens.ch hst64.ch
     replace h_r1 := h_r1.ch hst64.ch
     replace h_r33 := h_r33.ch hst64.ch
     replace hB := hB.trans hst64.fr
     refine GoR.op ((op_move rfl) _) rfl rfl ?_
     refine GoR.op ((op_move rfl) _) rfl rfl ?_
     refine GoR.call (op_call body29 rfl (walk_trans_OfWord hO.lt h_gens hs_u H)) rfl rfl ?_
     rintro v69 w66 ⟨r65, p_r65, c_r65, rfl, hs67, h_r65, H⟩
     have hst70 := Stp.same hO hs67
     replace hO := hst70.own
     replace h_gens := h_gens.ch hst70.ch
     replace h_r1 := h_r1.ch hst70.ch
     replace h_r33 := h_r33.ch hst70.ch
     replace h_r59 := h_r59.ch hst70.ch
     replace hB := hB.trans hst70.fr
     refine GoR.op ((op_move rfl) _) rfl rfl ?_
     refine GoR.call (op_call body15 rfl (walk_trans_Compose hO.lt h_r65 h_r1 H)) rfl rfl ?_
     rintro v75 w72 ⟨r71, p_r71, c_r71, rfl, hs73, h_r71, H⟩
     have hst76 := Stp.same hO hs73
     replace hO := hst76.own
     replace h_gens := h_gens.ch hst76.ch
     replace h_r1 := h_r1.ch hst76.ch
     replace h_r33 := h_r33.ch hst76.ch
     replace h_r59 := h_r59.ch hst76.ch
     replace h_r65 := h_r65.ch hst76.ch
     replace hB := hB.trans hst76.fr
     refine GoR.call (op_call body18 rfl (walk_ref03_Same hO.lt h_r59 h_r71 H)) rfl rfl ?_
     rintro v81 w78 ⟨r77, rfl, hs79, H⟩
     have hst82 := Stp.same hO hs79
     replace hO := hst82.own
     replace h_gens := h_gens.ch hst82.ch
     replace h_r1 := h_r1.ch hst82.ch
     replace h_r33 := h_r33.ch hst82.ch
     replace h_r59 := h_r59.ch hst82.ch
     replace h_r65 := h_r65.ch hst82.ch
     replace h_r71 := h_r71.ch hst82.ch
     replace hB := hB.trans hst82.fr
     refine GoR.op ((op_move rfl) _) rfl rfl ?_
     cases r77
     ·replace H := ifn Bool.false_ne_true H
      refine GoR.pass rfl rfl ?_
      refine GoR.op ((op_pickF rfl rfl rfl) _) rfl rfl ?_
      refine GoR.op ((op_assign rfl) _) rfl rfl ?_
      refine GoR.nil ?_
      refine Go1.ret1 Try.func7 rfl ?_
      exact ⟨false, rfl, hB.same, H⟩
     ·replace H := ifp rfl H
      refine GoR.call (op_call body17 rfl (walk_law11_awake hO.lt H)) rfl rfl ?_
      rintro v87 w84 ⟨r83, rfl, hs85, H⟩
      have hst88 := Stp.same hO hs85
      replace hO := hst88.own
      replace h_gens := h_gens.ch hst88.ch
      replace h_r1 := h_r1.ch hst88.ch
      replace h_r33 := h_r33.ch hst88.ch
      replace h_r59 := h_r59.ch hst88.ch
      replace h_r65 := h_r65.ch hst88.ch
      replace h_r71 := h_r71.ch hst88.ch
      replace hB := hB.trans hst88.fr
      refine GoR.op ((op_pickT rfl rfl rfl) _) rfl rfl ?_
      refine GoR.op ((op_assign rfl) _) rfl rfl ?_
      refine GoR.nil ?_
      refine Go1.ret1 Try.func7 rfl ?_
      exact ⟨r83, rfl, hB.same, H⟩
end Sg
