/- The walks: each call keeps to its plain transformer. Printed by walkgen.py. -/
import Derived.Test.YtolobiljalelgaaWMultSpecial
namespace Sg
open Go Go.RowKit Go.Proofs
set_option linter.unusedVariables false
set_option maxRecDepth 100000
set_option maxHeartbeats 4000000
theorem body78 : Body Try.prog 78 := ⟨Try.f78, Try.func78, rfl, by kernel_rfl⟩
theorem walk_word_Valid {A : List Nat} {w0 : World} {w_ : Str} {letters : Int} (hA : ∀ b ∈ A, b < w0.heap.size) (hs_w_ : w_.length ≤ mx) {K : Bool → Prop} (H : word_Valid w_ letters K) :
    CallsV Try.prog 78 #[.string (gstr w_), .int .i64 letters] w0 (fun v w' => ∃ (r0 : Bool), v = .bool r0 ∧ Same w0 w' ∧ K r0) := by
 refine CallsV.of (l := [.string (gstr w_), .int .i64 letters]) Try.func78 rfl Try.ntmps78 rfl ?_
 have hO := Owns.start hA
 have hB := Fr.refl (bl []) w0
 unfold word_Valid at H
 refine Go1.seq ?_
 refine Go1.region ?_
 refine GoR.op ((op_assign rfl) _) rfl rfl ?_
 refine GoR.nil ?_
 refine Go1.seq ?_
 refine Go1.seq ?_
 refine Go1.region ?_
 refine GoR.op ((op_move rfl) _) rfl rfl ?_
 by_cases h1 : letters < (1 : Int)
 ·replace H := ifp h1 H
  refine GoR.op ((fun w => opB (op_lss rfl rfl w) (decide_eq_true h1)) _) rfl rfl ?_
  refine GoR.op ((op_move rfl) _) rfl rfl ?_
  refine GoR.pass rfl rfl ?_
  refine GoR.pass rfl rfl ?_
  refine GoR.op ((op_pickT rfl rfl rfl) _) rfl rfl ?_
  refine GoR.op ((op_move rfl) _) rfl rfl ?_
  refine GoR.pass rfl rfl ?_
  refine GoR.pass rfl rfl ?_
  refine GoR.pass rfl rfl ?_
  refine GoR.op ((op_pickT rfl rfl rfl) _) rfl rfl ?_
  refine GoR.nil ?_
  refine Go1.condT rfl rfl ?_
  refine Go1.seq ?_
  refine Go1.region ?_
  refine GoR.op ((op_assign rfl) _) rfl rfl ?_
  refine GoR.nil ?_
  refine Go1.ret1 Try.func78 rfl ?_
  exact ⟨false, rfl, hB.same, H⟩
 ·replace H := ifn h1 H
  refine GoR.op ((fun w => opB (op_lss rfl rfl w) (decide_eq_false h1)) _) rfl rfl ?_
  refine GoR.op ((op_move rfl) _) rfl rfl ?_
  refine GoR.op ((op_move rfl) _) rfl rfl ?_
  by_cases h2 : (6 : Int) < letters
  ·replace H := ifp h2 H
   refine GoR.op ((fun w => opB (op_gtr rfl rfl w) (decide_eq_true h2)) _) rfl rfl ?_
   refine GoR.op ((op_pickF rfl rfl rfl) _) rfl rfl ?_
   refine GoR.op ((op_move rfl) _) rfl rfl ?_
   refine GoR.pass rfl rfl ?_
   refine GoR.pass rfl rfl ?_
   refine GoR.pass rfl rfl ?_
   refine GoR.op ((op_pickT rfl rfl rfl) _) rfl rfl ?_
   refine GoR.nil ?_
   refine Go1.condT rfl rfl ?_
   refine Go1.seq ?_
   refine Go1.region ?_
   refine GoR.op ((op_assign rfl) _) rfl rfl ?_
   refine GoR.nil ?_
   refine Go1.ret1 Try.func78 rfl ?_
   exact ⟨false, rfl, hB.same, H⟩
  ·replace H := ifn h2 H
   refine GoR.op ((fun w => opB (op_gtr rfl rfl w) (decide_eq_false h2)) _) rfl rfl ?_
   refine GoR.op ((op_pickF rfl rfl rfl) _) rfl rfl ?_
   refine GoR.op ((op_move rfl) _) rfl rfl ?_
   refine GoR.op ((op_move rfl) _) rfl rfl ?_
   refine GoR.op ((op_lenS Try.underlying9 rfl) _) rfl rfl ?_
   replace H := H hs_w_
   by_cases h3 : (2048 : Int) < (w_.length : Int)
   ·replace H := ifp h3 H
    refine GoR.op ((fun w => opB (op_gtr rfl rfl w) (decide_eq_true h3)) _) rfl rfl ?_
    refine GoR.op ((op_pickF rfl rfl rfl) _) rfl rfl ?_
    refine GoR.nil ?_
    refine Go1.condT rfl rfl ?_
    refine Go1.seq ?_
    refine Go1.region ?_
    refine GoR.op ((op_assign rfl) _) rfl rfl ?_
    refine GoR.nil ?_
    refine Go1.ret1 Try.func78 rfl ?_
    exact ⟨false, rfl, hB.same, H⟩
   ·replace H := ifn h3 H
    refine GoR.op ((fun w => opB (op_gtr rfl rfl w) (decide_eq_false h3)) _) rfl rfl ?_
    refine GoR.op ((op_pickF rfl rfl rfl) _) rfl rfl ?_
    refine GoR.nil ?_
    refine Go1.condF rfl rfl ?_
    refine Go1.skip ?_
    refine Go1.seq ?_
    refine Go1.seq ?_
    refine Go1.region ?_
    refine GoR.op ((op_move rfl) _) rfl rfl ?_
    refine GoR.op ((op_lenS Try.underlying9 rfl) _) rfl rfl ?_
    refine GoR.op ((op_move rfl) _) rfl rfl ?_
    refine GoR.nil ?_
    refine Go1.block ?_
    refine Go1.loopW (S := Nat) (fun s σ w => agrees σ [(0, .string (gstr w_)), (1, .int .i64 letters), (18, .int .i64 (w_.length : Int)), (19, .int .i64 (s : Int))] ∧ Owns w0.heap.size w [] A ∧ Fr (bl []) w0 (bl []) w) H ⟨⟨rfl, rfl, rfl, rfl, trivial⟩, hO, hB⟩ ?_
    rintro X1 k1_5 H hX1 σ w4 ⟨hag, hO, hB⟩
    refine Go1.keep [(0, .string (gstr w_)), (1, .int .i64 letters), (18, .int .i64 (w_.length : Int)), (19, .int .i64 (k1_5 : Int))] hag ?_
    refine Go1.seq ?_
    refine Go1.region ?_
    by_cases h6 : (k1_5 : Int) < (w_.length : Int)
    ·replace H := ifp h6 H
     refine GoR.op ((fun w => opB (op_lss rfl rfl w) (decide_eq_true h6)) _) rfl rfl ?_
     refine GoR.nil ?_
     refine Go1.seq ?_
     refine Go1.condT rfl rfl ?_
     refine Go1.skip ?_
     refine Go1.seq ?_
     refine Go1.block ?_
     refine Go1.seq ?_
     refine Go1.region ?_
     refine GoR.op ((op_move rfl) _) rfl rfl ?_
     refine GoR.op ((op_assign rfl) _) rfl rfl ?_
     refine GoR.nil ?_
     refine Go1.seq ?_
     refine Go1.region ?_
     refine GoR.op ((op_move rfl) _) rfl rfl ?_
     refine GoR.op ((op_move rfl) _) rfl rfl ?_
     obtain ⟨h7, H⟩ := H
     obtain ⟨h8, H⟩ := H
     refine GoR.op ((op_indexS Try.underlying9 rfl rfl h7 h8) _) rfl rfl ?_
     by_cases h9 : ((ix w_ (k1_5 : Int)).toNat : Int) < (97 : Int)
     ·replace H := ifp h9 H
      refine GoR.op ((fun w => opB (op_lss rfl rfl w) (decide_eq_true h9)) _) rfl rfl ?_
      refine GoR.op ((op_move rfl) _) rfl rfl ?_
      refine GoR.pass rfl rfl ?_
      refine GoR.pass rfl rfl ?_
      refine GoR.pass rfl rfl ?_
      refine GoR.pass rfl rfl ?_
      refine GoR.pass rfl rfl ?_
      refine GoR.pass rfl rfl ?_
      refine GoR.pass rfl rfl ?_
      refine GoR.op ((op_pickT rfl rfl rfl) _) rfl rfl ?_
      refine GoR.nil ?_
      refine Go1.condT rfl rfl ?_
      refine Go1.seq ?_
      refine Go1.region ?_
      refine GoR.op ((op_assign rfl) _) rfl rfl ?_
      refine GoR.nil ?_
      refine Go1.ret1 Try.func78 rfl ?_
      exact ⟨false, rfl, hB.same, H⟩
     ·replace H := ifn h9 H
      refine GoR.op ((fun w => opB (op_lss rfl rfl w) (decide_eq_false h9)) _) rfl rfl ?_
      refine GoR.op ((op_move rfl) _) rfl rfl ?_
      refine GoR.op ((op_move rfl) _) rfl rfl ?_
      refine GoR.op ((op_move rfl) _) rfl rfl ?_
      obtain ⟨h10, H⟩ := H
      obtain ⟨h11, H⟩ := H
      refine GoR.op ((op_indexS Try.underlying9 rfl rfl h10 h11) _) rfl rfl ?_
      refine GoR.op ((op_sub rfl rfl rfl) _) rfl rfl ?_
      refine GoR.op ((op_conv Try.underlying5 Try.underlying3 rfl rfl) _) rfl rfl ?_
      refine GoR.op ((op_move rfl) _) rfl rfl ?_
      by_cases h12 : letters ≤ (IntKind.i64.wrap (IntKind.u8.wrap (((ix w_ (k1_5 : Int)).toNat : Int) - (97 : Int))))
      ·replace H := ifp h12 H
       refine GoR.op ((fun w => opB (op_geq rfl rfl w) (decide_eq_true h12)) _) rfl rfl ?_
       refine GoR.op ((op_pickF rfl rfl rfl) _) rfl rfl ?_
       refine GoR.nil ?_
       refine Go1.condT rfl rfl ?_
       refine Go1.seq ?_
       refine Go1.region ?_
       refine GoR.op ((op_assign rfl) _) rfl rfl ?_
       refine GoR.nil ?_
       refine Go1.ret1 Try.func78 rfl ?_
       exact ⟨false, rfl, hB.same, H⟩
      ·replace H := ifn h12 H
       refine GoR.op ((fun w => opB (op_geq rfl rfl w) (decide_eq_false h12)) _) rfl rfl ?_
       refine GoR.op ((op_pickF rfl rfl rfl) _) rfl rfl ?_
       refine GoR.nil ?_
       refine Go1.condF rfl rfl ?_
       refine Go1.skip ?_
       refine Go1.inBlock ?_
       refine Go1.region ?_
       refine GoR.op ((op_add rfl rfl (wrap_i64 (natbd h6 hs_w_))) _) rfl rfl ?_
       refine GoR.op ((op_move rfl) _) rfl rfl ?_
       refine GoR.nil ?_
       exact hX1 _ H _ _ ⟨⟨rfl, rfl, rfl, rfl, trivial⟩, hO, hB⟩
    ·replace H := ifn h6 H
     refine GoR.op ((fun w => opB (op_lss rfl rfl w) (decide_eq_false h6)) _) rfl rfl ?_
     refine GoR.nil ?_
     refine Go1.seq ?_
     refine Go1.condF rfl rfl ?_
     refine Go1.exit rfl ?_
     refine Go1.seq ?_
     refine Go1.region ?_
     refine GoR.op ((op_assign rfl) _) rfl rfl ?_
     refine GoR.nil ?_
     refine Go1.ret1 Try.func78 rfl ?_
     exact ⟨true, rfl, hB.same, H⟩
theorem body42 : Body Try.prog 42 := ⟨Try.f42, Try.func42, rfl, by kernel_rfl⟩
theorem walk_mult_Value {A : List Nat} {w0 : World} {p_t : Option Addr} {c_t : Nat} {p_images : Option Addr} {c_images : Nat} {t : List (List Int)} {images : List Int} {w_ : Str} (hA : ∀ b ∈ A, b < w0.heap.size) (h_t : ISl (Rp.sl (Rp.int .i64)) A w0 p_t c_t t) (h_images : ISl (Rp.int .i64) A w0 p_images c_images images) (hs_w_ : w_.length ≤ mx) {K : Int → Prop} (H : mult_Value t images w_ K) :
    CallsV Try.prog 42 #[.slice p_t t.length c_t, .slice p_images images.length c_images, .string (gstr w_)] w0 (fun v w' => ∃ (r0 : Int), v = .int .i64 r0 ∧ Same w0 w' ∧ K r0) := by
 refine CallsV.of (l := [.slice p_t t.length c_t, .slice p_images images.length c_images, .string (gstr w_)]) Try.func42 rfl Try.ntmps42 rfl ?_
 have hO := Owns.start hA
 have hB := Fr.refl (bl []) w0
 unfold mult_Value at H
 replace h_t := h_t.ch (Ch.start A w0)
 replace h_images := h_images.ch (Ch.start A w0)
 refine Go1.seq ?_
 refine Go1.region ?_
 refine GoR.op ((op_assign rfl) _) rfl rfl ?_
 refine GoR.nil ?_
 refine Go1.seq ?_
 refine Go1.seq ?_
 refine Go1.region ?_
 refine GoR.op ((op_move rfl) _) rfl rfl ?_
 refine GoR.op ((op_len Try.underlying23 rfl) _) rfl rfl ?_
 replace H := H h_images.bd
 by_cases h1 : (images.length : Int) = (0 : Int)
 ·replace H := ifp h1 H
  refine GoR.op ((fun w => opB (op_eql rfl rfl w) (decide_eq_true h1)) _) rfl rfl ?_
  refine GoR.op ((op_move rfl) _) rfl rfl ?_
  refine GoR.pass rfl rfl ?_
  refine GoR.pass rfl rfl ?_
  refine GoR.pass rfl rfl ?_
  refine GoR.pass rfl rfl ?_
  refine GoR.pass rfl rfl ?_
  refine GoR.op ((op_pickT rfl rfl rfl) _) rfl rfl ?_
  refine GoR.op ((op_move rfl) _) rfl rfl ?_
  refine GoR.pass rfl rfl ?_
  refine GoR.pass rfl rfl ?_
  refine GoR.pass rfl rfl ?_
  refine GoR.pass rfl rfl ?_
  refine GoR.op ((op_pickT rfl rfl rfl) _) rfl rfl ?_
  refine GoR.nil ?_
  refine Go1.condT rfl rfl ?_
  refine Go1.seq ?_
  refine Go1.region ?_
  refine GoR.op ((op_assign rfl) _) rfl rfl ?_
  refine GoR.nil ?_
  refine Go1.ret1 Try.func42 rfl ?_
  exact ⟨(-1 : Int), rfl, hB.same, H⟩
 ·replace H := ifn h1 H
  refine GoR.op ((fun w => opB (op_eql rfl rfl w) (decide_eq_false h1)) _) rfl rfl ?_
  refine GoR.op ((op_move rfl) _) rfl rfl ?_
  refine GoR.op ((op_move rfl) _) rfl rfl ?_
  refine GoR.op ((op_move rfl) _) rfl rfl ?_
  refine GoR.op ((op_len Try.underlying23 rfl) _) rfl rfl ?_
  refine GoR.call (op_call body78 rfl (walk_word_Valid hO.lt hs_w_ H)) rfl rfl ?_
  rintro v6 w3 ⟨r2, rfl, hs4, H⟩
  have hst7 := Stp.same hO hs4
  replace hO := hst7.own
  replace h_t := h_t.ch hst7.ch
  replace h_images := h_images.ch hst7.ch
  replace hB := hB.trans hst7.fr
  cases r2
  ·replace H := ifn Bool.false_ne_true H
   refine GoR.op ((op_not rfl) _) rfl rfl ?_
   refine GoR.op ((op_pickF rfl rfl rfl) _) rfl rfl ?_
   refine GoR.op ((op_move rfl) _) rfl rfl ?_
   refine GoR.pass rfl rfl ?_
   refine GoR.pass rfl rfl ?_
   refine GoR.pass rfl rfl ?_
   refine GoR.pass rfl rfl ?_
   refine GoR.op ((op_pickT rfl rfl rfl) _) rfl rfl ?_
   refine GoR.nil ?_
   refine Go1.condT rfl rfl ?_
   refine Go1.seq ?_
   refine Go1.region ?_
   refine GoR.op ((op_assign rfl) _) rfl rfl ?_
   refine GoR.nil ?_
   refine Go1.ret1 Try.func42 rfl ?_
   exact ⟨(-1 : Int), rfl, hB.same, H⟩
  ·replace H := ifp rfl H
   refine GoR.op ((op_not rfl) _) rfl rfl ?_
   refine GoR.op ((op_pickF rfl rfl rfl) _) rfl rfl ?_
   refine GoR.op ((op_move rfl) _) rfl rfl ?_
   refine GoR.op ((op_move rfl) _) rfl rfl ?_
   refine GoR.op ((op_move rfl) _) rfl rfl ?_
   refine GoR.call (op_call body67 rfl (walk_mult_has hO.lt h_t h_images H)) rfl rfl ?_
   rintro v12 w9 ⟨r8, rfl, hs10, H⟩
   have hst13 := Stp.same hO hs10
   replace hO := hst13.own
   replace h_t := h_t.ch hst13.ch
   replace h_images := h_images.ch hst13.ch
   replace hB := hB.trans hst13.fr
   cases r8
   ·replace H := ifn Bool.false_ne_true H
    refine GoR.op ((op_not rfl) _) rfl rfl ?_
    refine GoR.op ((op_pickF rfl rfl rfl) _) rfl rfl ?_
    refine GoR.nil ?_
    refine Go1.condT rfl rfl ?_
    refine Go1.seq ?_
    refine Go1.region ?_
    refine GoR.op ((op_assign rfl) _) rfl rfl ?_
    refine GoR.nil ?_
    refine Go1.ret1 Try.func42 rfl ?_
    exact ⟨(-1 : Int), rfl, hB.same, H⟩
   ·replace H := ifp rfl H
    refine GoR.op ((op_not rfl) _) rfl rfl ?_
    refine GoR.op ((op_pickF rfl rfl rfl) _) rfl rfl ?_
    refine GoR.nil ?_
    refine Go1.condF rfl rfl ?_
    refine Go1.skip ?_
    refine Go1.seq ?_
    refine Go1.seq ?_
    refine Go1.region ?_
    refine GoR.op ((op_move rfl) _) rfl rfl ?_
    by_cases h14 : w_ = (([] : Str))
    ·replace H := ifp h14 H
     refine GoR.op ((fun w => opB (op_eqlS rfl rfl w) (decide_eq_true h14)) _) rfl rfl ?_
     refine GoR.nil ?_
     refine Go1.condT rfl rfl ?_
     refine Go1.seq ?_
     refine Go1.region ?_
     refine GoR.op ((op_move rfl) _) rfl rfl ?_
     refine GoR.call (op_call body35 rfl (walk_mult_Identity hO.lt h_t H)) rfl rfl ?_
     rintro v19 w16 ⟨r15, rfl, hs17, H⟩
     have hst20 := Stp.same hO hs17
     replace hO := hst20.own
     replace h_t := h_t.ch hst20.ch
     replace h_images := h_images.ch hst20.ch
     replace hB := hB.trans hst20.fr
     refine GoR.op ((op_assign rfl) _) rfl rfl ?_
     refine GoR.nil ?_
     refine Go1.ret1 Try.func42 rfl ?_
     exact ⟨r15, rfl, hB.same, H⟩
    ·replace H := ifn h14 H
     refine GoR.op ((fun w => opB (op_eqlS rfl rfl w) (decide_eq_false h14)) _) rfl rfl ?_
     refine GoR.nil ?_
     refine Go1.condF rfl rfl ?_
     refine Go1.skip ?_
     refine Go1.seq ?_
     refine Go1.region ?_
     refine GoR.op ((op_move rfl) _) rfl rfl ?_
     refine GoR.op ((op_move rfl) _) rfl rfl ?_
     obtain ⟨h21, H⟩ := H
     obtain ⟨h22, H⟩ := H
     refine GoR.op ((op_indexS Try.underlying9 rfl rfl h21 h22) _) rfl rfl ?_
     refine GoR.op ((op_sub rfl rfl rfl) _) rfl rfl ?_
     obtain ⟨h23, H⟩ := H
     obtain ⟨h24, H⟩ := H
     refine GoR.op ((op_index Try.underlying23 ti3 rfl rfl h23 h24 (h_images.some_ h23 h24)) _) rfl rfl ?_
     refine GoR.op ((ldInt h_images h23 h24 Try.underlying3 rfl rfl) _ (Same.refl _)) rfl rfl ?_
     refine GoR.op ((op_assign rfl) _) rfl rfl ?_
     refine GoR.nil ?_
     refine Go1.seq ?_
     refine Go1.seq ?_
     refine Go1.region ?_
     refine GoR.op ((op_assign rfl) _) rfl rfl ?_
     refine GoR.nil ?_
     refine Go1.block ?_
     refine Go1.loopW (S := Int × Nat) (fun s σ w => agrees σ [(0, .slice p_t t.length c_t), (1, .slice p_images images.length c_images), (2, .string (gstr w_)), (7, .int .i64 (s.1)), (8, .int .i64 ((s.2) : Int))] ∧ Owns w0.heap.size w [] A ∧ ISl (Rp.sl (Rp.int .i64)) (bl [] ++ A) w p_t c_t t ∧ ISl (Rp.int .i64) (bl [] ++ A) w p_images c_images images ∧ Fr (bl []) w0 (bl []) w) H ⟨⟨rfl, rfl, rfl, rfl, rfl, trivial⟩, hO, h_t, h_images, hB⟩ ?_
     rintro X1 ⟨value1_26, i1_27⟩ H hX1 σ w25 ⟨hag, hO, h_t, h_images, hB⟩
     dsimp only at H
     refine Go1.keep [(0, .slice p_t t.length c_t), (1, .slice p_images images.length c_images), (2, .string (gstr w_)), (7, .int .i64 value1_26), (8, .int .i64 (i1_27 : Int))] hag ?_
     refine Go1.seq ?_
     refine Go1.seq ?_
     refine Go1.region ?_
     refine GoR.op ((op_move rfl) _) rfl rfl ?_
     refine GoR.op ((op_move rfl) _) rfl rfl ?_
     refine GoR.op ((op_lenS Try.underlying9 rfl) _) rfl rfl ?_
     replace H := H hs_w_
     by_cases h28 : (i1_27 : Int) < (w_.length : Int)
     ·replace H := ifp h28 H
      refine GoR.op ((fun w => opB (op_lss rfl rfl w) (decide_eq_true h28)) _) rfl rfl ?_
      refine GoR.nil ?_
      refine Go1.condT rfl rfl ?_
      refine Go1.skip ?_
      refine Go1.seq ?_
      refine Go1.block ?_
      refine Go1.drawS 0 [(0, .pure), (1, .pure), (2, .pure), (3, .stable), (4, .pure), (5, .pure), (6, .pure), (7, .pure), (8, .pure), (9, .pure), (10, .stable), (11, .pure), (12, .stable), (13, .pure)] mixed (by kernel_rfl) ?_
      intro w29 hs30
      have hst31 := Stp.same hO hs30
      replace hO := hst31.own
      replace h_t := h_t.ch hst31.ch
      replace h_images := h_images.ch hst31.ch
      replace hB := hB.trans hst31.fr
      refine GoQ.pure rfl (op_move rfl) rfl rfl ?_
      refine GoQ.pure rfl (op_move rfl) rfl rfl ?_
      obtain ⟨h32, H⟩ := H
      obtain ⟨h33, H⟩ := H
      refine GoQ.pure rfl (op_index Try.underlying22 ti23 rfl rfl h32 h33 (h_t.some_ h32 h33)) rfl rfl ?_
      have hobt := ldSl h_t h32 h33
      obtain ⟨p34, c35, hi36, hl37⟩ := hobt
      refine GoQ.stable rfl (hl37 Try.underlying23 rfl rfl) rfl rfl ?_
      refine GoQ.pure rfl (op_move rfl) rfl rfl ?_
      refine GoQ.pure rfl (op_move rfl) rfl rfl ?_
      refine GoQ.pure rfl (op_move rfl) rfl rfl ?_
      obtain ⟨h38, H⟩ := H
      obtain ⟨h39, H⟩ := H
      refine GoQ.pure rfl (op_indexS Try.underlying9 rfl rfl h38 h39) rfl rfl ?_
      refine GoQ.pure rfl (op_sub rfl rfl rfl) rfl rfl ?_
      obtain ⟨h40, H⟩ := H
      obtain ⟨h41, H⟩ := H
      refine GoQ.pure rfl (op_index Try.underlying23 ti3 rfl rfl h40 h41 (h_images.some_ h40 h41)) rfl rfl ?_
      refine GoQ.stable rfl (ldInt h_images h40 h41 Try.underlying3 rfl rfl) rfl rfl ?_
      obtain ⟨h42, H⟩ := H
      obtain ⟨h43, H⟩ := H
      refine GoQ.pure rfl (op_index Try.underlying23 ti3 rfl rfl h42 h43 (hi36.some_ h42 h43)) rfl rfl ?_
      refine GoQ.stable rfl (ldInt hi36 h42 h43 Try.underlying3 rfl rfl) rfl rfl ?_
      refine GoQ.pure rfl (op_assign rfl) rfl rfl ?_
      refine GoQ.nil ?_
      refine Go1.inBlock ?_
      refine Go1.region ?_
      refine GoR.op ((op_move rfl) _) rfl rfl ?_
      refine GoR.op ((op_add rfl rfl (wrap_i64 (natbd h28 hs_w_))) _) rfl rfl ?_
      refine GoR.op ((op_assign rfl) _) rfl rfl ?_
      refine GoR.nil ?_
      exact hX1 _ H _ _ ⟨⟨rfl, rfl, rfl, rfl, rfl, trivial⟩, hO, h_t, h_images, hB⟩
     ·replace H := ifn h28 H
      refine GoR.op ((fun w => opB (op_lss rfl rfl w) (decide_eq_false h28)) _) rfl rfl ?_
      refine GoR.nil ?_
      refine Go1.condF rfl rfl ?_
      refine Go1.exit rfl ?_
      refine Go1.seq ?_
      refine Go1.region ?_
      refine GoR.op ((op_move rfl) _) rfl rfl ?_
      refine GoR.op ((op_assign rfl) _) rfl rfl ?_
      refine GoR.nil ?_
      refine Go1.ret1 Try.func42 rfl ?_
      exact ⟨value1_26, rfl, hB.same, H⟩
theorem body79 : Body Try.prog 79 := ⟨Try.f79, Try.func79, rfl, by kernel_rfl⟩
theorem walk_ref01_MayLetters {A : List Nat} {w0 : World} {letters : Int} (hA : ∀ b ∈ A, b < w0.heap.size) {K : Bool → Prop} (H : ref01_MayLetters letters K) :
    CallsV Try.prog 79 #[.int .i64 letters] w0 (fun v w' => ∃ (r0 : Bool), v = .bool r0 ∧ Same w0 w' ∧ K r0) := by
 refine CallsV.of (l := [.int .i64 letters]) Try.func79 rfl Try.ntmps79 rfl ?_
 have hO := Owns.start hA
 have hB := Fr.refl (bl []) w0
 unfold ref01_MayLetters at H
 refine Go1.seq ?_
 refine Go1.region ?_
 refine GoR.op ((op_assign rfl) _) rfl rfl ?_
 refine GoR.nil ?_
 refine Go1.seq ?_
 refine Go1.region ?_
 refine GoR.op ((op_move rfl) _) rfl rfl ?_
 by_cases h1 : (1 : Int) ≤ letters
 ·replace H := ifp h1 H
  refine GoR.op ((fun w => opB (op_geq rfl rfl w) (decide_eq_true h1)) _) rfl rfl ?_
  refine GoR.op ((op_move rfl) _) rfl rfl ?_
  refine GoR.op ((op_move rfl) _) rfl rfl ?_
  by_cases h2 : letters ≤ (6 : Int)
  ·replace H := ifp h2 H
   refine GoR.op ((fun w => opB (op_leq rfl rfl w) (decide_eq_true h2)) _) rfl rfl ?_
   refine GoR.op ((op_pickT rfl rfl rfl) _) rfl rfl ?_
   refine GoR.op ((op_assign rfl) _) rfl rfl ?_
   refine GoR.nil ?_
   refine Go1.ret1 Try.func79 rfl ?_
   exact ⟨true, rfl, hB.same, H⟩
  ·replace H := ifn h2 H
   refine GoR.op ((fun w => opB (op_leq rfl rfl w) (decide_eq_false h2)) _) rfl rfl ?_
   refine GoR.op ((op_pickT rfl rfl rfl) _) rfl rfl ?_
   refine GoR.op ((op_assign rfl) _) rfl rfl ?_
   refine GoR.nil ?_
   refine Go1.ret1 Try.func79 rfl ?_
   exact ⟨false, rfl, hB.same, H⟩
 ·replace H := ifn h1 H
  refine GoR.op ((fun w => opB (op_geq rfl rfl w) (decide_eq_false h1)) _) rfl rfl ?_
  refine GoR.op ((op_move rfl) _) rfl rfl ?_
  refine GoR.pass rfl rfl ?_
  refine GoR.pass rfl rfl ?_
  refine GoR.op ((op_pickF rfl rfl rfl) _) rfl rfl ?_
  refine GoR.op ((op_assign rfl) _) rfl rfl ?_
  refine GoR.nil ?_
  refine Go1.ret1 Try.func79 rfl ?_
  exact ⟨false, rfl, hB.same, H⟩
theorem body44 : Body Try.prog 44 := ⟨Try.f44, Try.func44, rfl, by kernel_rfl⟩
theorem walk_ref01_Valid {A : List Nat} {w0 : World} {w_ : Str} {letters : Int} (hA : ∀ b ∈ A, b < w0.heap.size) (hs_w_ : w_.length ≤ mx) {K : Bool → Prop} (H : ref01_Valid w_ letters K) :
    CallsV Try.prog 44 #[.string (gstr w_), .int .i64 letters] w0 (fun v w' => ∃ (r0 : Bool), v = .bool r0 ∧ Same w0 w' ∧ K r0) := by
 refine CallsV.of (l := [.string (gstr w_), .int .i64 letters]) Try.func44 rfl Try.ntmps44 rfl ?_
 have hO := Owns.start hA
 have hB := Fr.refl (bl []) w0
 unfold ref01_Valid at H
 refine Go1.seq ?_
 refine Go1.region ?_
 refine GoR.op ((op_assign rfl) _) rfl rfl ?_
 refine GoR.nil ?_
 refine Go1.seq ?_
 refine Go1.seq ?_
 refine Go1.region ?_
 refine GoR.op ((op_move rfl) _) rfl rfl ?_
 refine GoR.call (op_call body79 rfl (walk_ref01_MayLetters hO.lt H)) rfl rfl ?_
 rintro v5 w2 ⟨r1, rfl, hs3, H⟩
 have hst6 := Stp.same hO hs3
 replace hO := hst6.own
 replace hB := hB.trans hst6.fr
 cases r1
 ·replace H := ifn Bool.false_ne_true H
  refine GoR.op ((op_not rfl) _) rfl rfl ?_
  refine GoR.op ((op_move rfl) _) rfl rfl ?_
  refine GoR.pass rfl rfl ?_
  refine GoR.pass rfl rfl ?_
  refine GoR.pass rfl rfl ?_
  refine GoR.op ((op_pickT rfl rfl rfl) _) rfl rfl ?_
  refine GoR.nil ?_
  refine Go1.condT rfl rfl ?_
  refine Go1.seq ?_
  refine Go1.region ?_
  refine GoR.op ((op_assign rfl) _) rfl rfl ?_
  refine GoR.nil ?_
  refine Go1.ret1 Try.func44 rfl ?_
  exact ⟨false, rfl, hB.same, H⟩
 ·replace H := ifp rfl H
  refine GoR.op ((op_not rfl) _) rfl rfl ?_
  refine GoR.op ((op_move rfl) _) rfl rfl ?_
  refine GoR.op ((op_move rfl) _) rfl rfl ?_
  refine GoR.op ((op_lenS Try.underlying9 rfl) _) rfl rfl ?_
  replace H := H hs_w_
  by_cases h7 : (2048 : Int) < (w_.length : Int)
  ·replace H := ifp h7 H
   refine GoR.op ((fun w => opB (op_gtr rfl rfl w) (decide_eq_true h7)) _) rfl rfl ?_
   refine GoR.op ((op_pickF rfl rfl rfl) _) rfl rfl ?_
   refine GoR.nil ?_
   refine Go1.condT rfl rfl ?_
   refine Go1.seq ?_
   refine Go1.region ?_
   refine GoR.op ((op_assign rfl) _) rfl rfl ?_
   refine GoR.nil ?_
   refine Go1.ret1 Try.func44 rfl ?_
   exact ⟨false, rfl, hB.same, H⟩
  ·replace H := ifn h7 H
   refine GoR.op ((fun w => opB (op_gtr rfl rfl w) (decide_eq_false h7)) _) rfl rfl ?_
   refine GoR.op ((op_pickF rfl rfl rfl) _) rfl rfl ?_
   refine GoR.nil ?_
   refine Go1.condF rfl rfl ?_
   refine Go1.skip ?_
   refine Go1.seq ?_
   refine Go1.seq ?_
   refine Go1.region ?_
   refine GoR.op ((op_assign rfl) _) rfl rfl ?_
   refine GoR.nil ?_
   refine Go1.block ?_
   refine Go1.loopW (S := Nat) (fun s σ w => agrees σ [(0, .string (gstr w_)), (1, .int .i64 letters), (5, .int .i64 (s : Int))] ∧ Owns w0.heap.size w [] A ∧ Fr (bl []) w0 (bl []) w) H ⟨⟨rfl, rfl, rfl, trivial⟩, hO, hB⟩ ?_
   rintro X1 i1_9 H hX1 σ w8 ⟨hag, hO, hB⟩
   refine Go1.keep [(0, .string (gstr w_)), (1, .int .i64 letters), (5, .int .i64 (i1_9 : Int))] hag ?_
   refine Go1.seq ?_
   refine Go1.seq ?_
   refine Go1.region ?_
   refine GoR.op ((op_move rfl) _) rfl rfl ?_
   refine GoR.op ((op_move rfl) _) rfl rfl ?_
   refine GoR.op ((op_lenS Try.underlying9 rfl) _) rfl rfl ?_
   by_cases h10 : (i1_9 : Int) < (w_.length : Int)
   ·replace H := ifp h10 H
    refine GoR.op ((fun w => opB (op_lss rfl rfl w) (decide_eq_true h10)) _) rfl rfl ?_
    refine GoR.nil ?_
    refine Go1.condT rfl rfl ?_
    refine Go1.skip ?_
    refine Go1.seq ?_
    refine Go1.block ?_
    refine Go1.seq ?_
    refine Go1.region ?_
    refine GoR.op ((op_move rfl) _) rfl rfl ?_
    refine GoR.op ((op_move rfl) _) rfl rfl ?_
    obtain ⟨h11, H⟩ := H
    obtain ⟨h12, H⟩ := H
    refine GoR.op ((op_indexS Try.underlying9 rfl rfl h11 h12) _) rfl rfl ?_
    by_cases h13 : ((ix w_ (i1_9 : Int)).toNat : Int) < (97 : Int)
    ·replace H := ifp h13 H
     refine GoR.op ((fun w => opB (op_lss rfl rfl w) (decide_eq_true h13)) _) rfl rfl ?_
     refine GoR.op ((op_move rfl) _) rfl rfl ?_
     refine GoR.pass rfl rfl ?_
     refine GoR.pass rfl rfl ?_
     refine GoR.pass rfl rfl ?_
     refine GoR.pass rfl rfl ?_
     refine GoR.pass rfl rfl ?_
     refine GoR.pass rfl rfl ?_
     refine GoR.pass rfl rfl ?_
     refine GoR.op ((op_pickT rfl rfl rfl) _) rfl rfl ?_
     refine GoR.nil ?_
     refine Go1.condT rfl rfl ?_
     refine Go1.seq ?_
     refine Go1.region ?_
     refine GoR.op ((op_assign rfl) _) rfl rfl ?_
     refine GoR.nil ?_
     refine Go1.ret1 Try.func44 rfl ?_
     exact ⟨false, rfl, hB.same, H⟩
    ·replace H := ifn h13 H
     refine GoR.op ((fun w => opB (op_lss rfl rfl w) (decide_eq_false h13)) _) rfl rfl ?_
     refine GoR.op ((op_move rfl) _) rfl rfl ?_
     refine GoR.op ((op_move rfl) _) rfl rfl ?_
     refine GoR.op ((op_move rfl) _) rfl rfl ?_
     obtain ⟨h14, H⟩ := H
     obtain ⟨h15, H⟩ := H
     refine GoR.op ((op_indexS Try.underlying9 rfl rfl h14 h15) _) rfl rfl ?_
     refine GoR.op ((op_sub rfl rfl rfl) _) rfl rfl ?_
     refine GoR.op ((op_conv Try.underlying5 Try.underlying3 rfl rfl) _) rfl rfl ?_
     refine GoR.op ((op_move rfl) _) rfl rfl ?_
     by_cases h16 : letters ≤ (IntKind.i64.wrap (IntKind.u8.wrap (((ix w_ (i1_9 : Int)).toNat : Int) - (97 : Int))))
     ·replace H := ifp h16 H
      refine GoR.op ((fun w => opB (op_geq rfl rfl w) (decide_eq_true h16)) _) rfl rfl ?_
      refine GoR.op ((op_pickF rfl rfl rfl) _) rfl rfl ?_
      refine GoR.nil ?_
      refine Go1.condT rfl rfl ?_
      refine Go1.seq ?_
      refine Go1.region ?_
      refine GoR.op ((op_assign rfl) _) rfl rfl ?_
      refine GoR.nil ?_
      refine Go1.ret1 Try.func44 rfl ?_
      exact ⟨false, rfl, hB.same, H⟩
     ·replace H := ifn h16 H
      refine GoR.op ((fun w => opB (op_geq rfl rfl w) (decide_eq_false h16)) _) rfl rfl ?_
      refine GoR.op ((op_pickF rfl rfl rfl) _) rfl rfl ?_
      refine GoR.nil ?_
      refine Go1.condF rfl rfl ?_
      refine Go1.skip ?_
      refine Go1.inBlock ?_
      refine Go1.region ?_
      refine GoR.op ((op_move rfl) _) rfl rfl ?_
      refine GoR.op ((op_add rfl rfl (wrap_i64 (natbd h10 hs_w_))) _) rfl rfl ?_
      refine GoR.op ((op_assign rfl) _) rfl rfl ?_
      refine GoR.nil ?_
      exact hX1 _ H _ _ ⟨⟨rfl, rfl, rfl, trivial⟩, hO, hB⟩
   ·replace H := ifn h10 H
    refine GoR.op ((fun w => opB (op_lss rfl rfl w) (decide_eq_false h10)) _) rfl rfl ?_
    refine GoR.nil ?_
    refine Go1.condF rfl rfl ?_
    refine Go1.exit rfl ?_
    refine Go1.seq ?_
    refine Go1.region ?_
    refine GoR.op ((op_assign rfl) _) rfl rfl ?_
    refine GoR.nil ?_
    refine Go1.ret1 Try.func44 rfl ?_
    exact ⟨true, rfl, hB.same, H⟩
theorem body43 : Body Try.prog 43 := ⟨Try.f43, Try.func43, rfl, by kernel_rfl⟩
theorem walk_ref14_Value {A : List Nat} {w0 : World} {p_t : Option Addr} {c_t : Nat} {p_images : Option Addr} {c_images : Nat} {t : List (List Int)} {images : List Int} {w_ : Str} (hA : ∀ b ∈ A, b < w0.heap.size) (h_t : ISl (Rp.sl (Rp.int .i64)) A w0 p_t c_t t) (h_images : ISl (Rp.int .i64) A w0 p_images c_images images) (hs_w_ : w_.length ≤ mx) {K : Int → Prop} (H : ref14_Value t images w_ K) :
    CallsV Try.prog 43 #[.slice p_t t.length c_t, .slice p_images images.length c_images, .string (gstr w_)] w0 (fun v w' => ∃ (r0 : Int), v = .int .i64 r0 ∧ Same w0 w' ∧ K r0) := by
 refine CallsV.of (l := [.slice p_t t.length c_t, .slice p_images images.length c_images, .string (gstr w_)]) Try.func43 rfl Try.ntmps43 rfl ?_
 have hO := Owns.start hA
 have hB := Fr.refl (bl []) w0
 unfold ref14_Value at H
 replace h_t := h_t.ch (Ch.start A w0)
 replace h_images := h_images.ch (Ch.start A w0)
 refine Go1.seq ?_
 refine Go1.region ?_
 refine GoR.op ((op_assign rfl) _) rfl rfl ?_
 refine GoR.nil ?_
 refine Go1.seq ?_
 refine Go1.seq ?_
 refine Go1.region ?_
 refine GoR.op ((op_move rfl) _) rfl rfl ?_
 refine GoR.op ((op_len Try.underlying23 rfl) _) rfl rfl ?_
 replace H := H h_images.bd
 by_cases h1 : (images.length : Int) < (1 : Int)
 ·replace H := ifp h1 H
  refine GoR.op ((fun w => opB (op_lss rfl rfl w) (decide_eq_true h1)) _) rfl rfl ?_
  refine GoR.op ((op_move rfl) _) rfl rfl ?_
  refine GoR.pass rfl rfl ?_
  refine GoR.pass rfl rfl ?_
  refine GoR.pass rfl rfl ?_
  refine GoR.op ((op_pickT rfl rfl rfl) _) rfl rfl ?_
  refine GoR.op ((op_move rfl) _) rfl rfl ?_
  refine GoR.pass rfl rfl ?_
  refine GoR.pass rfl rfl ?_
  refine GoR.pass rfl rfl ?_
  refine GoR.pass rfl rfl ?_
  refine GoR.op ((op_pickT rfl rfl rfl) _) rfl rfl ?_
  refine GoR.op ((op_move rfl) _) rfl rfl ?_
  refine GoR.pass rfl rfl ?_
  refine GoR.pass rfl rfl ?_
  refine GoR.pass rfl rfl ?_
  refine GoR.pass rfl rfl ?_
  refine GoR.pass rfl rfl ?_
  refine GoR.op ((op_pickT rfl rfl rfl) _) rfl rfl ?_
  refine GoR.nil ?_
  refine Go1.condT rfl rfl ?_
  refine Go1.seq ?_
  refine Go1.region ?_
  refine GoR.op ((op_assign rfl) _) rfl rfl ?_
  refine GoR.nil ?_
  refine Go1.ret1 Try.func43 rfl ?_
  exact ⟨(-1 : Int), rfl, hB.same, H⟩
 ·replace H := ifn h1 H
  refine GoR.op ((fun w => opB (op_lss rfl rfl w) (decide_eq_false h1)) _) rfl rfl ?_
  refine GoR.op ((op_move rfl) _) rfl rfl ?_
  refine GoR.op ((op_move rfl) _) rfl rfl ?_
  refine GoR.op ((op_len Try.underlying23 rfl) _) rfl rfl ?_
  by_cases h2 : (6 : Int) < (images.length : Int)
  ·replace H := ifp h2 H
   refine GoR.op ((fun w => opB (op_gtr rfl rfl w) (decide_eq_true h2)) _) rfl rfl ?_
   refine GoR.op ((op_pickF rfl rfl rfl) _) rfl rfl ?_
   refine GoR.op ((op_move rfl) _) rfl rfl ?_
   refine GoR.pass rfl rfl ?_
   refine GoR.pass rfl rfl ?_
   refine GoR.pass rfl rfl ?_
   refine GoR.pass rfl rfl ?_
   refine GoR.op ((op_pickT rfl rfl rfl) _) rfl rfl ?_
   refine GoR.op ((op_move rfl) _) rfl rfl ?_
   refine GoR.pass rfl rfl ?_
   refine GoR.pass rfl rfl ?_
   refine GoR.pass rfl rfl ?_
   refine GoR.pass rfl rfl ?_
   refine GoR.pass rfl rfl ?_
   refine GoR.op ((op_pickT rfl rfl rfl) _) rfl rfl ?_
   refine GoR.nil ?_
   refine Go1.condT rfl rfl ?_
   refine Go1.seq ?_
   refine Go1.region ?_
   refine GoR.op ((op_assign rfl) _) rfl rfl ?_
   refine GoR.nil ?_
   refine Go1.ret1 Try.func43 rfl ?_
   exact ⟨(-1 : Int), rfl, hB.same, H⟩
  ·replace H := ifn h2 H
   refine GoR.op ((fun w => opB (op_gtr rfl rfl w) (decide_eq_false h2)) _) rfl rfl ?_
   refine GoR.op ((op_pickF rfl rfl rfl) _) rfl rfl ?_
   refine GoR.op ((op_move rfl) _) rfl rfl ?_
   refine GoR.op ((op_move rfl) _) rfl rfl ?_
   refine GoR.op ((op_move rfl) _) rfl rfl ?_
   refine GoR.call (op_call body20 rfl (walk_ref14_In hO.lt h_t h_images H)) rfl rfl ?_
   rintro v7 w4 ⟨r3, rfl, hs5, H⟩
   have hst8 := Stp.same hO hs5
   replace hO := hst8.own
   replace h_t := h_t.ch hst8.ch
   replace h_images := h_images.ch hst8.ch
   replace hB := hB.trans hst8.fr
   cases r3
   ·replace H := ifn Bool.false_ne_true H
    refine GoR.op ((op_not rfl) _) rfl rfl ?_
    refine GoR.op ((op_pickF rfl rfl rfl) _) rfl rfl ?_
    refine GoR.op ((op_move rfl) _) rfl rfl ?_
    refine GoR.pass rfl rfl ?_
    refine GoR.pass rfl rfl ?_
    refine GoR.pass rfl rfl ?_
    refine GoR.pass rfl rfl ?_
    refine GoR.pass rfl rfl ?_
    refine GoR.op ((op_pickT rfl rfl rfl) _) rfl rfl ?_
    refine GoR.nil ?_
    refine Go1.condT rfl rfl ?_
    refine Go1.seq ?_
    refine Go1.region ?_
    refine GoR.op ((op_assign rfl) _) rfl rfl ?_
    refine GoR.nil ?_
    refine Go1.ret1 Try.func43 rfl ?_
    exact ⟨(-1 : Int), rfl, hB.same, H⟩
   ·replace H := ifp rfl H
    refine GoR.op ((op_not rfl) _) rfl rfl ?_
    refine GoR.op ((op_pickF rfl rfl rfl) _) rfl rfl ?_
    refine GoR.op ((op_move rfl) _) rfl rfl ?_
    refine GoR.op ((op_move rfl) _) rfl rfl ?_
    refine GoR.op ((op_move rfl) _) rfl rfl ?_
    refine GoR.op ((op_len Try.underlying23 rfl) _) rfl rfl ?_
    refine GoR.call (op_call body44 rfl (walk_ref01_Valid hO.lt hs_w_ H)) rfl rfl ?_
    rintro v13 w10 ⟨r9, rfl, hs11, H⟩
    have hst14 := Stp.same hO hs11
    replace hO := hst14.own
    replace h_t := h_t.ch hst14.ch
    replace h_images := h_images.ch hst14.ch
    replace hB := hB.trans hst14.fr
    cases r9
    ·replace H := ifn Bool.false_ne_true H
     refine GoR.op ((op_not rfl) _) rfl rfl ?_
     refine GoR.op ((op_pickF rfl rfl rfl) _) rfl rfl ?_
     refine GoR.nil ?_
     refine Go1.condT rfl rfl ?_
     refine Go1.seq ?_
     refine Go1.region ?_
     refine GoR.op ((op_assign rfl) _) rfl rfl ?_
     refine GoR.nil ?_
     refine Go1.ret1 Try.func43 rfl ?_
     exact ⟨(-1 : Int), rfl, hB.same, H⟩
    ·replace H := ifp rfl H
     refine GoR.op ((op_not rfl) _) rfl rfl ?_
     refine GoR.op ((op_pickF rfl rfl rfl) _) rfl rfl ?_
     refine GoR.nil ?_
     refine Go1.condF rfl rfl ?_
     refine Go1.skip ?_
     refine Go1.seq ?_
     refine Go1.seq ?_
     refine Go1.region ?_
     refine GoR.op ((op_move rfl) _) rfl rfl ?_
     by_cases h15 : w_ = (([] : Str))
     ·replace H := ifp h15 H
      refine GoR.op ((fun w => opB (op_eqlS rfl rfl w) (decide_eq_true h15)) _) rfl rfl ?_
      refine GoR.nil ?_
      refine Go1.condT rfl rfl ?_
      refine Go1.seq ?_
      refine Go1.region ?_
      refine GoR.op ((op_move rfl) _) rfl rfl ?_
      refine GoR.call (op_call body38 rfl (walk_ref14_Identity hO.lt h_t H)) rfl rfl ?_
      rintro v20 w17 ⟨r16, rfl, hs18, H⟩
      have hst21 := Stp.same hO hs18
      replace hO := hst21.own
      replace h_t := h_t.ch hst21.ch
      replace h_images := h_images.ch hst21.ch
      replace hB := hB.trans hst21.fr
      refine GoR.op ((op_assign rfl) _) rfl rfl ?_
      refine GoR.nil ?_
      refine Go1.ret1 Try.func43 rfl ?_
      exact ⟨r16, rfl, hB.same, H⟩
     ·replace H := ifn h15 H
      refine GoR.op ((fun w => opB (op_eqlS rfl rfl w) (decide_eq_false h15)) _) rfl rfl ?_
      refine GoR.nil ?_
      refine Go1.condF rfl rfl ?_
      refine Go1.skip ?_
      refine Go1.seq ?_
      refine Go1.region ?_
      refine GoR.op ((op_move rfl) _) rfl rfl ?_
      refine GoR.op ((op_move rfl) _) rfl rfl ?_
      obtain ⟨h22, H⟩ := H
      obtain ⟨h23, H⟩ := H
      refine GoR.op ((op_indexS Try.underlying9 rfl rfl h22 h23) _) rfl rfl ?_
      refine GoR.op ((op_sub rfl rfl rfl) _) rfl rfl ?_
      refine GoR.op ((op_conv Try.underlying5 Try.underlying3 rfl rfl) _) rfl rfl ?_
      obtain ⟨h24, H⟩ := H
      obtain ⟨h25, H⟩ := H
      refine GoR.op ((op_index Try.underlying23 ti3 rfl rfl h24 h25 (h_images.some_ h24 h25)) _) rfl rfl ?_
      refine GoR.op ((ldInt h_images h24 h25 Try.underlying3 rfl rfl) _ (Same.refl _)) rfl rfl ?_
      refine GoR.op ((op_assign rfl) _) rfl rfl ?_
      refine GoR.nil ?_
      refine Go1.seq ?_
      refine Go1.seq ?_
      refine Go1.region ?_
      refine GoR.op ((op_assign rfl) _) rfl rfl ?_
      refine GoR.nil ?_
      refine Go1.block ?_
      refine Go1.loopW (S := Int × Nat) (fun s σ w => agrees σ [(0, .slice p_t t.length c_t), (1, .slice p_images images.length c_images), (2, .string (gstr w_)), (7, .int .i64 (s.1)), (8, .int .i64 ((s.2) : Int))] ∧ Owns w0.heap.size w [] A ∧ ISl (Rp.sl (Rp.int .i64)) (bl [] ++ A) w p_t c_t t ∧ ISl (Rp.int .i64) (bl [] ++ A) w p_images c_images images ∧ Fr (bl []) w0 (bl []) w) H ⟨⟨rfl, rfl, rfl, rfl, rfl, trivial⟩, hO, h_t, h_images, hB⟩ ?_
      rintro X1 ⟨x1_27, i1_28⟩ H hX1 σ w26 ⟨hag, hO, h_t, h_images, hB⟩
      dsimp only at H
      refine Go1.keep [(0, .slice p_t t.length c_t), (1, .slice p_images images.length c_images), (2, .string (gstr w_)), (7, .int .i64 x1_27), (8, .int .i64 (i1_28 : Int))] hag ?_
      refine Go1.seq ?_
      refine Go1.seq ?_
      refine Go1.region ?_
      refine GoR.op ((op_move rfl) _) rfl rfl ?_
      refine GoR.op ((op_move rfl) _) rfl rfl ?_
      refine GoR.op ((op_lenS Try.underlying9 rfl) _) rfl rfl ?_
      replace H := H hs_w_
      by_cases h29 : (i1_28 : Int) < (w_.length : Int)
      ·replace H := ifp h29 H
       refine GoR.op ((fun w => opB (op_lss rfl rfl w) (decide_eq_true h29)) _) rfl rfl ?_
       refine GoR.nil ?_
       refine Go1.condT rfl rfl ?_
       refine Go1.skip ?_
       refine Go1.seq ?_
       refine Go1.block ?_
       refine Go1.drawS 0 [(0, .pure), (1, .pure), (2, .pure), (3, .stable), (4, .pure), (5, .pure), (6, .pure), (7, .pure), (8, .pure), (9, .pure), (10, .pure), (11, .stable), (12, .pure), (13, .stable), (14, .pure)] mixed (by kernel_rfl) ?_
       intro w30 hs31
       have hst32 := Stp.same hO hs31
       replace hO := hst32.own
       replace h_t := h_t.ch hst32.ch
       replace h_images := h_images.ch hst32.ch
       replace hB := hB.trans hst32.fr
       refine GoQ.pure rfl (op_move rfl) rfl rfl ?_
       refine GoQ.pure rfl (op_move rfl) rfl rfl ?_
       obtain ⟨h33, H⟩ := H
       obtain ⟨h34, H⟩ := H
       refine GoQ.pure rfl (op_index Try.underlying22 ti23 rfl rfl h33 h34 (h_t.some_ h33 h34)) rfl rfl ?_
       have hobt := ldSl h_t h33 h34
       obtain ⟨p35, c36, hi37, hl38⟩ := hobt
       refine GoQ.stable rfl (hl38 Try.underlying23 rfl rfl) rfl rfl ?_
       refine GoQ.pure rfl (op_move rfl) rfl rfl ?_
       refine GoQ.pure rfl (op_move rfl) rfl rfl ?_
       refine GoQ.pure rfl (op_move rfl) rfl rfl ?_
       obtain ⟨h39, H⟩ := H
       obtain ⟨h40, H⟩ := H
       refine GoQ.pure rfl (op_indexS Try.underlying9 rfl rfl h39 h40) rfl rfl ?_
       refine GoQ.pure rfl (op_sub rfl rfl rfl) rfl rfl ?_
       refine GoQ.pure rfl (op_conv Try.underlying5 Try.underlying3 rfl rfl) rfl rfl ?_
       obtain ⟨h41, H⟩ := H
       obtain ⟨h42, H⟩ := H
       refine GoQ.pure rfl (op_index Try.underlying23 ti3 rfl rfl h41 h42 (h_images.some_ h41 h42)) rfl rfl ?_
       refine GoQ.stable rfl (ldInt h_images h41 h42 Try.underlying3 rfl rfl) rfl rfl ?_
       obtain ⟨h43, H⟩ := H
       obtain ⟨h44, H⟩ := H
       refine GoQ.pure rfl (op_index Try.underlying23 ti3 rfl rfl h43 h44 (hi37.some_ h43 h44)) rfl rfl ?_
       refine GoQ.stable rfl (ldInt hi37 h43 h44 Try.underlying3 rfl rfl) rfl rfl ?_
       refine GoQ.pure rfl (op_assign rfl) rfl rfl ?_
       refine GoQ.nil ?_
       refine Go1.inBlock ?_
       refine Go1.region ?_
       refine GoR.op ((op_move rfl) _) rfl rfl ?_
       refine GoR.op ((op_add rfl rfl (wrap_i64 (natbd h29 hs_w_))) _) rfl rfl ?_
       refine GoR.op ((op_assign rfl) _) rfl rfl ?_
       refine GoR.nil ?_
       exact hX1 _ H _ _ ⟨⟨rfl, rfl, rfl, rfl, rfl, trivial⟩, hO, h_t, h_images, hB⟩
      ·replace H := ifn h29 H
       refine GoR.op ((fun w => opB (op_lss rfl rfl w) (decide_eq_false h29)) _) rfl rfl ?_
       refine GoR.nil ?_
       refine Go1.condF rfl rfl ?_
       refine Go1.exit rfl ?_
       refine Go1.seq ?_
       refine Go1.region ?_
       refine GoR.op ((op_move rfl) _) rfl rfl ?_
       refine GoR.op ((op_assign rfl) _) rfl rfl ?_
       refine GoR.nil ?_
       refine Go1.ret1 Try.func43 rfl ?_
       exact ⟨x1_27, rfl, hB.same, H⟩
theorem body9 : Body Try.prog 9 := ⟨Try.f9, Try.func9, rfl, by kernel_rfl⟩
theorem walk_law14_MultValues {A : List Nat} {w0 : World} {p_a0 : Option Addr} {c_a0 : Nat} {p_a1 : Option Addr} {c_a1 : Nat} {a0 : List (List Int)} {a1 : List Int} {a2 : Str} {a3 : Str} (hA : ∀ b ∈ A, b < w0.heap.size) (h_a0 : ISl (Rp.sl (Rp.int .i64)) A w0 p_a0 c_a0 a0) (h_a1 : ISl (Rp.int .i64) A w0 p_a1 c_a1 a1) (hs_a2 : a2.length ≤ mx) (hs_a3 : a3.length ≤ mx) {K : Bool → Prop} (H : law14_MultValues a0 a1 a2 a3 K) :
    CallsV Try.prog 9 #[.slice p_a0 a0.length c_a0, .slice p_a1 a1.length c_a1, .string (gstr a2), .string (gstr a3)] w0 (fun v w' => ∃ (r0 : Bool), v = .bool r0 ∧ Same w0 w' ∧ K r0) := by
 refine CallsV.of (l := [.slice p_a0 a0.length c_a0, .slice p_a1 a1.length c_a1, .string (gstr a2), .string (gstr a3)]) Try.func9 rfl Try.ntmps9 rfl ?_
 have hO := Owns.start hA
 have hB := Fr.refl (bl []) w0
 unfold law14_MultValues at H
 replace h_a0 := h_a0.ch (Ch.start A w0)
 replace h_a1 := h_a1.ch (Ch.start A w0)
 refine Go1.seq ?_
 refine Go1.region ?_
 refine GoR.op ((op_assign rfl) _) rfl rfl ?_
 refine GoR.nil ?_
 refine Go1.seq ?_
 refine Go1.seq ?_
 refine Go1.region ?_
 refine GoR.op ((op_move rfl) _) rfl rfl ?_
 refine GoR.call (op_call body19 rfl (walk_ref14_Shape hO.lt h_a0 H)) rfl rfl ?_
 rintro v5 w2 ⟨r1, rfl, hs3, H⟩
 have hst6 := Stp.same hO hs3
 replace hO := hst6.own
 replace h_a0 := h_a0.ch hst6.ch
 replace h_a1 := h_a1.ch hst6.ch
 replace hB := hB.trans hst6.fr
 by_cases h7 : r1 = (0 : Int)
 ·replace H := ifp h7 H
  refine GoR.op ((fun w => opB (op_eql rfl rfl w) (decide_eq_true h7)) _) rfl rfl ?_
  refine GoR.op ((op_move rfl) _) rfl rfl ?_
  refine GoR.op ((op_move rfl) _) rfl rfl ?_
  refine GoR.op ((op_len Try.underlying22 rfl) _) rfl rfl ?_
  replace H := H h_a0.bd
  by_cases h8 : (20 : Int) < (a0.length : Int)
  ·replace H := ifp h8 H
   refine GoR.op ((fun w => opB (op_gtr rfl rfl w) (decide_eq_true h8)) _) rfl rfl ?_
   refine GoR.op ((op_pickT rfl rfl rfl) _) rfl rfl ?_
   refine GoR.nil ?_
   refine Go1.condT rfl rfl ?_
   refine Go1.seq ?_
   refine Go1.region ?_
   refine GoR.call (op_call body16 rfl (walk_law14_awake hO.lt H)) rfl rfl ?_
   rintro v13 w10 ⟨r9, rfl, hs11, H⟩
   have hst14 := Stp.same hO hs11
   replace hO := hst14.own
   replace h_a0 := h_a0.ch hst14.ch
   replace h_a1 := h_a1.ch hst14.ch
   replace hB := hB.trans hst14.fr
   refine GoR.op ((op_assign rfl) _) rfl rfl ?_
   refine GoR.nil ?_
   refine Go1.ret1 Try.func9 rfl ?_
   exact ⟨r9, rfl, hB.same, H⟩
  ·replace H := ifn h8 H
   refine GoR.op ((fun w => opB (op_gtr rfl rfl w) (decide_eq_false h8)) _) rfl rfl ?_
   refine GoR.op ((op_pickT rfl rfl rfl) _) rfl rfl ?_
   refine GoR.nil ?_
   refine Go1.condF rfl rfl ?_
   refine Go1.skip ?_
   refine Go1.seq ?_
   refine Go1.region ?_
   refine GoR.op ((op_move rfl) _) rfl rfl ?_
   refine GoR.op ((op_move rfl) _) rfl rfl ?_
   refine GoR.op ((op_move rfl) _) rfl rfl ?_
   refine GoR.call (op_call body42 rfl (walk_mult_Value hO.lt h_a0 h_a1 hs_a3 H)) rfl rfl ?_
   rintro v19 w16 ⟨r15, rfl, hs17, H⟩
   have hst20 := Stp.same hO hs17
   replace hO := hst20.own
   replace h_a0 := h_a0.ch hst20.ch
   replace h_a1 := h_a1.ch hst20.ch
   replace hB := hB.trans hst20.fr
   refine GoR.op ((op_assign rfl) _) rfl rfl ?_
   refine GoR.nil ?_
   refine Go1.seq ?_
   refine Go1.seq ?_
   refine Go1.region ?_
   refine GoR.op ((op_move rfl) _) rfl rfl ?_
   refine GoR.call (op_call body26 rfl (walk_ref14_Valid hO.lt h_a0 H)) rfl rfl ?_
   rintro v25 w22 ⟨r21, rfl, hs23, H⟩
   have hst26 := Stp.same hO hs23
   replace hO := hst26.own
   replace h_a0 := h_a0.ch hst26.ch
   replace h_a1 := h_a1.ch hst26.ch
   replace hB := hB.trans hst26.fr
   cases r21
   ·replace H := ifn Bool.false_ne_true H
    refine GoR.op ((op_not rfl) _) rfl rfl ?_
    refine GoR.nil ?_
    refine Go1.condT rfl rfl ?_
    refine Go1.seq ?_
    refine Go1.region ?_
    refine GoR.op ((op_move rfl) _) rfl rfl ?_
    by_cases h27 : r15 = (-1 : Int)
    ·replace H := ifp h27 H
     refine GoR.op ((fun w => opB (op_eql rfl rfl w) (decide_eq_true h27)) _) rfl rfl ?_
     refine GoR.op ((op_move rfl) _) rfl rfl ?_
     refine GoR.call (op_call body16 rfl (walk_law14_awake hO.lt H)) rfl rfl ?_
     rintro v32 w29 ⟨r28, rfl, hs30, H⟩
     have hst33 := Stp.same hO hs30
     replace hO := hst33.own
     replace h_a0 := h_a0.ch hst33.ch
     replace h_a1 := h_a1.ch hst33.ch
     replace hB := hB.trans hst33.fr
     refine GoR.op ((op_pickT rfl rfl rfl) _) rfl rfl ?_
     refine GoR.op ((op_assign rfl) _) rfl rfl ?_
     refine GoR.nil ?_
     refine Go1.ret1 Try.func9 rfl ?_
     exact ⟨r28, rfl, hB.same, H⟩
    ·replace H := ifn h27 H
     refine GoR.op ((fun w => opB (op_eql rfl rfl w) (decide_eq_false h27)) _) rfl rfl ?_
     refine GoR.op ((op_move rfl) _) rfl rfl ?_
     refine GoR.pass rfl rfl ?_
     refine GoR.op ((op_pickF rfl rfl rfl) _) rfl rfl ?_
     refine GoR.op ((op_assign rfl) _) rfl rfl ?_
     refine GoR.nil ?_
     refine Go1.ret1 Try.func9 rfl ?_
     exact ⟨false, rfl, hB.same, H⟩
   ·replace H := ifp rfl H
    refine GoR.op ((op_not rfl) _) rfl rfl ?_
    refine GoR.nil ?_
    refine Go1.condF rfl rfl ?_
    refine Go1.skip ?_
    refine Go1.seq ?_
    refine Go1.seq ?_
    refine Go1.region ?_
    refine GoR.op ((op_move rfl) _) rfl rfl ?_
    refine GoR.op ((op_move rfl) _) rfl rfl ?_
    refine GoR.op ((op_move rfl) _) rfl rfl ?_
    refine GoR.op ((op_move rfl) _) rfl rfl ?_
    refine GoR.call (op_call body43 rfl (walk_ref14_Value hO.lt h_a0 h_a1 hs_a3 H)) rfl rfl ?_
    rintro v38 w35 ⟨r34, rfl, hs36, H⟩
    have hst39 := Stp.same hO hs36
    replace hO := hst39.own
    replace h_a0 := h_a0.ch hst39.ch
    replace h_a1 := h_a1.ch hst39.ch
    replace hB := hB.trans hst39.fr
    by_cases h40 : r15 = r34
    ·replace H := ifp h40 H
     refine GoR.op ((fun w => opB (op_neq rfl rfl w) (ndT h40)) _) rfl rfl ?_
     refine GoR.nil ?_
     refine Go1.condF rfl rfl ?_
     refine Go1.skip ?_
     refine Go1.seq ?_
     refine Go1.region ?_
     refine GoR.op ((op_move rfl) _) rfl rfl ?_
     refine GoR.op ((op_move rfl) _) rfl rfl ?_
     refine GoR.op ((op_move rfl) _) rfl rfl ?_
     refine GoR.call (op_call body42 rfl (walk_mult_Value hO.lt h_a0 h_a1 hs_a2 H)) rfl rfl ?_
     rintro v45 w42 ⟨r41, rfl, hs43, H⟩
     have hst46 := Stp.same hO hs43
     replace hO := hst46.own
     replace h_a0 := h_a0.ch hst46.ch
     replace h_a1 := h_a1.ch hst46.ch
     replace hB := hB.trans hst46.fr
     refine GoR.op ((op_assign rfl) _) rfl rfl ?_
     refine GoR.nil ?_
     refine Go1.seq ?_
     refine Go1.seq ?_
     refine Go1.region ?_
     refine GoR.op ((op_move rfl) _) rfl rfl ?_
     by_cases h47 : r15 < (0 : Int)
     ·replace H := ifp h47 H
      refine GoR.op ((fun w => opB (op_lss rfl rfl w) (decide_eq_true h47)) _) rfl rfl ?_
      refine GoR.op ((op_move rfl) _) rfl rfl ?_
      refine GoR.pass rfl rfl ?_
      refine GoR.pass rfl rfl ?_
      refine GoR.op ((op_pickT rfl rfl rfl) _) rfl rfl ?_
      refine GoR.op ((op_move rfl) _) rfl rfl ?_
      refine GoR.pass rfl rfl ?_
      refine GoR.pass rfl rfl ?_
      refine GoR.pass rfl rfl ?_
      refine GoR.pass rfl rfl ?_
      refine GoR.pass rfl rfl ?_
      refine GoR.op ((op_pickT rfl rfl rfl) _) rfl rfl ?_
      refine GoR.nil ?_
      refine Go1.condT rfl rfl ?_
      refine Go1.seq ?_
      refine Go1.region ?_
      refine GoR.call (op_call body16 rfl (walk_law14_awake hO.lt H)) rfl rfl ?_
      rintro v52 w49 ⟨r48, rfl, hs50, H⟩
      have hst53 := Stp.same hO hs50
      replace hO := hst53.own
      replace h_a0 := h_a0.ch hst53.ch
      replace h_a1 := h_a1.ch hst53.ch
      replace hB := hB.trans hst53.fr
      refine GoR.op ((op_assign rfl) _) rfl rfl ?_
      refine GoR.nil ?_
      refine Go1.ret1 Try.func9 rfl ?_
      exact ⟨r48, rfl, hB.same, H⟩
     ·replace H := ifn h47 H
      refine GoR.op ((fun w => opB (op_lss rfl rfl w) (decide_eq_false h47)) _) rfl rfl ?_
      refine GoR.op ((op_move rfl) _) rfl rfl ?_
      refine GoR.op ((op_move rfl) _) rfl rfl ?_
      by_cases h54 : r41 < (0 : Int)
      ·replace H := ifp h54 H
       refine GoR.op ((fun w => opB (op_lss rfl rfl w) (decide_eq_true h54)) _) rfl rfl ?_
       refine GoR.op ((op_pickF rfl rfl rfl) _) rfl rfl ?_
       refine GoR.op ((op_move rfl) _) rfl rfl ?_
       refine GoR.pass rfl rfl ?_
       refine GoR.pass rfl rfl ?_
       refine GoR.pass rfl rfl ?_
       refine GoR.pass rfl rfl ?_
       refine GoR.pass rfl rfl ?_
       refine GoR.op ((op_pickT rfl rfl rfl) _) rfl rfl ?_
       refine GoR.nil ?_
       refine Go1.condT rfl rfl ?_
       refine Go1.seq ?_
       refine Go1.region ?_
       refine GoR.call (op_call body16 rfl (walk_law14_awake hO.lt H)) rfl rfl ?_
       rintro v59 w56 ⟨r55, rfl, hs57, H⟩
       have hst60 := Stp.same hO hs57
       replace hO := hst60.own
       replace h_a0 := h_a0.ch hst60.ch
       replace h_a1 := h_a1.ch hst60.ch
       replace hB := hB.trans hst60.fr
       refine GoR.op ((op_assign rfl) _) rfl rfl ?_
       refine GoR.nil ?_
       refine Go1.ret1 Try.func9 rfl ?_
       exact ⟨r55, rfl, hB.same, H⟩
      ·replace H := ifn h54 H
       refine GoR.op ((fun w => opB (op_lss rfl rfl w) (decide_eq_false h54)) _) rfl rfl ?_
       refine GoR.op ((op_pickF rfl rfl rfl) _) rfl rfl ?_
       refine GoR.op ((op_move rfl) _) rfl rfl ?_
       refine GoR.op ((op_move rfl) _) rfl rfl ?_
       refine GoR.op ((op_move rfl) _) rfl rfl ?_
       obtain ⟨h61, H⟩ := H
       refine GoR.op ((op_addS rfl rfl h61) _) rfl rfl ?_
       refine GoR.call (op_call body44 rfl (walk_ref01_Valid hO.lt (lenApp h61) H)) rfl rfl ?_
       rintro v66 w63 ⟨r62, rfl, hs64, H⟩
       have hst67 := Stp.same hO hs64
       replace hO := hst67.own
       replace h_a0 := h_a0.ch hst67.ch
       replace h_a1 := h_a1.ch hst67.ch
       replace hB := hB.trans hst67.fr
       cases r62
       ·replace H := ifn Bool.false_ne_true H
        refine GoR.op ((op_not rfl) _) rfl rfl ?_
        refine GoR.op ((op_pickF rfl rfl rfl) _) rfl rfl ?_
        refine GoR.nil ?_
        refine Go1.condT rfl rfl ?_
        refine Go1.seq ?_
        refine Go1.region ?_
        refine GoR.call (op_call body16 rfl (walk_law14_awake hO.lt H)) rfl rfl ?_
        rintro v72 w69 ⟨r68, rfl, hs70, H⟩
        have hst73 := Stp.same hO hs70
        replace hO := hst73.own
        replace h_a0 := h_a0.ch hst73.ch
        replace h_a1 := h_a1.ch hst73.ch
        replace hB := hB.trans hst73.fr
        refine GoR.op ((op_assign rfl) _) rfl rfl ?_
        refine GoR.nil ?_
        refine Go1.ret1 Try.func9 rfl ?_
        exact ⟨r68, rfl, hB.same, H⟩
       ·replace H := ifp rfl H
        refine GoR.op ((op_not rfl) _) rfl rfl ?_
        refine GoR.op ((op_pickF rfl rfl rfl) _) rfl rfl ?_
        refine GoR.nil ?_
        refine Go1.condF rfl rfl ?_
        refine Go1.skip ?_
        refine Go1.seq ?_
        refine Go1.drawS 0 [(0, .pure), (1, .pure), (2, .pure), (3, .pure), (4, .pure), (5, .pure), (6, .pure), (7, .pure), (8, .pure), (9, .pure), (10, .pure), (11, .pure), (12, .pure), (13, .pure), (14, .pure), (15, .pure), (17, .pure), (18, .pure), (19, .pure), (20, .stable), (21, .pure), (22, .pure), (23, .stable), (16, .loud), (24, .pure), (25, .pure), (26, .pure), (27, .loud), (28, .pure), (29, .pure)] mixed (by kernel_rfl) ?_
        intro w74 hs75
        have hst76 := Stp.same hO hs75
        replace hO := hst76.own
        replace h_a0 := h_a0.ch hst76.ch
        replace h_a1 := h_a1.ch hst76.ch
        replace hB := hB.trans hst76.fr
        refine GoQ.pure rfl (op_move rfl) rfl rfl ?_
        refine GoQ.pure rfl (op_move rfl) rfl rfl ?_
        refine GoQ.pure rfl (op_len Try.underlying22 rfl) rfl rfl ?_
        by_cases h77 : r41 < (a0.length : Int)
        ·replace H := ifp h77 H
         refine GoQ.pure rfl (fun w => opB (op_lss rfl rfl w) (decide_eq_true h77)) rfl rfl ?_
         refine GoQ.pure rfl (op_move rfl) rfl rfl ?_
         refine GoQ.pure rfl (op_move rfl) rfl rfl ?_
         refine GoQ.pure rfl (op_move rfl) rfl rfl ?_
         refine GoQ.pure rfl (op_len Try.underlying22 rfl) rfl rfl ?_
         by_cases h78 : r15 < (a0.length : Int)
         ·replace H := ifp h78 H
          refine GoQ.pure rfl (fun w => opB (op_lss rfl rfl w) (decide_eq_true h78)) rfl rfl ?_
          refine GoQ.pure rfl (op_pickT rfl rfl rfl) rfl rfl ?_
          refine GoQ.pure rfl (op_move rfl) rfl rfl ?_
          refine GoQ.pure rfl (op_move rfl) rfl rfl ?_
          refine GoQ.pure rfl (op_move rfl) rfl rfl ?_
          refine GoQ.pure rfl (op_move rfl) rfl rfl ?_
          refine GoQ.pure rfl (op_move rfl) rfl rfl ?_
          obtain ⟨h79, H⟩ := H
          refine GoQ.pure rfl (op_addS rfl rfl h79) rfl rfl ?_
          refine GoQ.pure rfl (op_move rfl) rfl rfl ?_
          refine GoQ.pure rfl (op_move rfl) rfl rfl ?_
          obtain ⟨h80, H⟩ := H
          obtain ⟨h81, H⟩ := H
          refine GoQ.pure rfl (op_index Try.underlying22 ti23 rfl rfl h80 h81 (h_a0.some_ h80 h81)) rfl rfl ?_
          have hobt := ldSl h_a0 h80 h81
          obtain ⟨p82, c83, hi84, hl85⟩ := hobt
          refine GoQ.stable rfl (hl85 Try.underlying23 rfl rfl) rfl rfl ?_
          refine GoQ.pure rfl (op_move rfl) rfl rfl ?_
          obtain ⟨h86, H⟩ := H
          obtain ⟨h87, H⟩ := H
          refine GoQ.pure rfl (op_index Try.underlying23 ti3 rfl rfl h86 h87 (hi84.some_ h86 h87)) rfl rfl ?_
          refine GoQ.stable rfl (ldInt hi84 h86 h87 Try.underlying3 rfl rfl) rfl rfl ?_
          refine GoQ.call rfl (op_call body42 rfl (walk_mult_Value hO.lt h_a0 h_a1 (lenApp h79) H)) (fun v w hr => by obtain ⟨_, _, hs, _⟩ := hr; assumption) rfl rfl ?_
          rintro v92 w89 ⟨r88, rfl, hs90, H⟩
          have hst93 := Stp.same hO hs90
          replace hO := hst93.own
          replace h_a0 := h_a0.ch hst93.ch
          replace h_a1 := h_a1.ch hst93.ch
          replace hi84 := hi84.ch hst93.ch
          replace hB := hB.trans hst93.fr
          by_cases h94 : r88 = (ix (ix a0 r41) r15)
          ·replace H := ifp h94 H
           refine GoQ.pure rfl (fun w => opB (op_eql rfl rfl w) (decide_eq_true h94)) rfl rfl ?_
           refine GoQ.pure rfl (op_pickT rfl rfl rfl) rfl rfl ?_
           refine GoQ.pure rfl (op_move rfl) rfl rfl ?_
           refine GoQ.call rfl (op_call body16 rfl (walk_law14_awake hO.lt H)) (fun v w hr => by obtain ⟨_, _, hs, _⟩ := hr; assumption) rfl rfl ?_
           rintro v99 w96 ⟨r95, rfl, hs97, H⟩
           have hst100 := Stp.same hO hs97
           replace hO := hst100.own
           replace h_a0 := h_a0.ch hst100.ch
           replace h_a1 := h_a1.ch hst100.ch
           replace hi84 := hi84.ch hst100.ch
           replace hB := hB.trans hst100.fr
           refine GoQ.pure rfl (op_pickT rfl rfl rfl) rfl rfl ?_
           refine GoQ.pure rfl (op_assign rfl) rfl rfl ?_
           refine GoQ.nil ?_
           refine Go1.ret1 Try.func9 rfl ?_
           exact ⟨r95, rfl, hB.same, H⟩
          ·replace H := ifn h94 H
           refine GoQ.pure rfl (fun w => opB (op_eql rfl rfl w) (decide_eq_false h94)) rfl rfl ?_
           refine GoQ.pure rfl (op_pickT rfl rfl rfl) rfl rfl ?_
           refine GoQ.pure rfl (op_move rfl) rfl rfl ?_
           refine GoQ.pass rfl rfl rfl ?_
           refine GoQ.pure rfl (op_pickF rfl rfl rfl) rfl rfl ?_
           refine GoQ.pure rfl (op_assign rfl) rfl rfl ?_
           refine GoQ.nil ?_
           refine Go1.ret1 Try.func9 rfl ?_
           exact ⟨false, rfl, hB.same, H⟩
         ·replace H := ifn h78 H
          refine GoQ.pure rfl (fun w => opB (op_lss rfl rfl w) (decide_eq_false h78)) rfl rfl ?_
          refine GoQ.pure rfl (op_pickT rfl rfl rfl) rfl rfl ?_
          refine GoQ.pure rfl (op_move rfl) rfl rfl ?_
          refine GoQ.pass rfl rfl rfl ?_
          refine GoQ.pass rfl rfl rfl ?_
          refine GoQ.pass rfl rfl rfl ?_
          refine GoQ.pass rfl rfl rfl ?_
          refine GoQ.pass rfl rfl rfl ?_
          refine GoQ.pass rfl rfl rfl ?_
          refine GoQ.pass rfl rfl rfl ?_
          refine GoQ.pass rfl rfl rfl ?_
          refine GoQ.pass rfl rfl rfl ?_
          refine GoQ.pass rfl rfl rfl ?_
          refine GoQ.pass rfl rfl rfl ?_
          refine GoQ.pass rfl rfl rfl ?_
          refine GoQ.pass rfl rfl rfl ?_
          refine GoQ.pass rfl rfl rfl ?_
          refine GoQ.pure rfl (op_pickF rfl rfl rfl) rfl rfl ?_
          refine GoQ.pure rfl (op_move rfl) rfl rfl ?_
          refine GoQ.pass rfl rfl rfl ?_
          refine GoQ.pure rfl (op_pickF rfl rfl rfl) rfl rfl ?_
          refine GoQ.pure rfl (op_assign rfl) rfl rfl ?_
          refine GoQ.nil ?_
          refine Go1.ret1 Try.func9 rfl ?_
          exact ⟨false, rfl, hB.same, H⟩
        ·replace H := ifn h77 H
         refine GoQ.pure rfl (fun w => opB (op_lss rfl rfl w) (decide_eq_false h77)) rfl rfl ?_
         refine GoQ.pure rfl (op_move rfl) rfl rfl ?_
         refine GoQ.pass rfl rfl rfl ?_
         refine GoQ.pass rfl rfl rfl ?_
         refine GoQ.pass rfl rfl rfl ?_
         refine GoQ.pass rfl rfl rfl ?_
         refine GoQ.pure rfl (op_pickF rfl rfl rfl) rfl rfl ?_
         refine GoQ.pure rfl (op_move rfl) rfl rfl ?_
         refine GoQ.pass rfl rfl rfl ?_
         refine GoQ.pass rfl rfl rfl ?_
         refine GoQ.pass rfl rfl rfl ?_
         refine GoQ.pass rfl rfl rfl ?_
         refine GoQ.pass rfl rfl rfl ?_
         refine GoQ.pass rfl rfl rfl ?_
         refine GoQ.pass rfl rfl rfl ?_
         refine GoQ.pass rfl rfl rfl ?_
         refine GoQ.pass rfl rfl rfl ?_
         refine GoQ.pass rfl rfl rfl ?_
         refine GoQ.pass rfl rfl rfl ?_
         refine GoQ.pass rfl rfl rfl ?_
         refine GoQ.pass rfl rfl rfl ?_
         refine GoQ.pass rfl rfl rfl ?_
         refine GoQ.pure rfl (op_pickF rfl rfl rfl) rfl rfl ?_
         refine GoQ.pure rfl (op_move rfl) rfl rfl ?_
         refine GoQ.pass rfl rfl rfl ?_
         refine GoQ.pure rfl (op_pickF rfl rfl rfl) rfl rfl ?_
         refine GoQ.pure rfl (op_assign rfl) rfl rfl ?_
         refine GoQ.nil ?_
         refine Go1.ret1 Try.func9 rfl ?_
         exact ⟨false, rfl, hB.same, H⟩
    ·replace H := ifn h40 H
     refine GoR.op ((fun w => opB (op_neq rfl rfl w) (ndF h40)) _) rfl rfl ?_
     refine GoR.nil ?_
     refine Go1.condT rfl rfl ?_
     refine Go1.seq ?_
     refine Go1.region ?_
     refine GoR.op ((op_assign rfl) _) rfl rfl ?_
     refine GoR.nil ?_
     refine Go1.ret1 Try.func9 rfl ?_
     exact ⟨false, rfl, hB.same, H⟩
 ·replace H := ifn h7 H
  refine GoR.op ((fun w => opB (op_eql rfl rfl w) (decide_eq_false h7)) _) rfl rfl ?_
  refine GoR.op ((op_move rfl) _) rfl rfl ?_
  refine GoR.pass rfl rfl ?_
  refine GoR.pass rfl rfl ?_
  refine GoR.pass rfl rfl ?_
  refine GoR.op ((op_pickF rfl rfl rfl) _) rfl rfl ?_
  refine GoR.nil ?_
  refine Go1.condF rfl rfl ?_
  refine Go1.skip ?_
  refine Go1.seq ?_
  refine Go1.region ?_
  refine GoR.op ((op_move rfl) _) rfl rfl ?_
  refine GoR.op ((op_move rfl) _) rfl rfl ?_
  refine GoR.op ((op_move rfl) _) rfl rfl ?_
  refine GoR.call (op_call body42 rfl (walk_mult_Value hO.lt h_a0 h_a1 hs_a3 H)) rfl rfl ?_
  rintro v105 w102 ⟨r101, rfl, hs103, H⟩
  have hst106 := Stp.same hO hs103
  replace hO := hst106.own
  replace h_a0 := h_a0.ch hst106.ch
  replace h_a1 := h_a1.ch hst106.ch
  replace hB := hB.trans hst106.fr
  refine GoR.op ((op_assign rfl) _) rfl rfl ?_
  refine GoR.nil ?_
  refine Go1.seq ?_
  refine Go1.seq ?_
  refine Go1.region ?_
  refine GoR.op ((op_move rfl) _) rfl rfl ?_
  refine GoR.call (op_call body26 rfl (walk_ref14_Valid hO.lt h_a0 H)) rfl rfl ?_
  rintro v111 w108 ⟨r107, rfl, hs109, H⟩
  have hst112 := Stp.same hO hs109
  replace hO := hst112.own
  replace h_a0 := h_a0.ch hst112.ch
  replace h_a1 := h_a1.ch hst112.ch
  replace hB := hB.trans hst112.fr
  cases r107
  ·replace H := ifn Bool.false_ne_true H
   refine GoR.op ((op_not rfl) _) rfl rfl ?_
   refine GoR.nil ?_
   refine Go1.condT rfl rfl ?_
   refine Go1.seq ?_
   refine Go1.region ?_
   refine GoR.op ((op_move rfl) _) rfl rfl ?_
   by_cases h113 : r101 = (-1 : Int)
   ·replace H := ifp h113 H
    refine GoR.op ((fun w => opB (op_eql rfl rfl w) (decide_eq_true h113)) _) rfl rfl ?_
    refine GoR.op ((op_move rfl) _) rfl rfl ?_
    refine GoR.call (op_call body16 rfl (walk_law14_awake hO.lt H)) rfl rfl ?_
    rintro v118 w115 ⟨r114, rfl, hs116, H⟩
    have hst119 := Stp.same hO hs116
    replace hO := hst119.own
    replace h_a0 := h_a0.ch hst119.ch
    replace h_a1 := h_a1.ch hst119.ch
    replace hB := hB.trans hst119.fr
    refine GoR.op ((op_pickT rfl rfl rfl) _) rfl rfl ?_
    refine GoR.op ((op_assign rfl) _) rfl rfl ?_
    refine GoR.nil ?_
    refine Go1.ret1 Try.func9 rfl ?_
    exact ⟨r114, rfl, hB.same, H⟩
   ·replace H := ifn h113 H
    refine GoR.op ((fun w => opB (op_eql rfl rfl w) (decide_eq_false h113)) _) rfl rfl ?_
    refine GoR.op ((op_move rfl) _) rfl rfl ?_
    refine GoR.pass rfl rfl ?_
    refine GoR.op ((op_pickF rfl rfl rfl) _) rfl rfl ?_
    refine GoR.op ((op_assign rfl) _) rfl rfl ?_
    refine GoR.nil ?_
    refine Go1.ret1 Try.func9 rfl ?_
    exact ⟨false, rfl, hB.same, H⟩
  ·replace H := ifp rfl H
   refine GoR.op ((op_not rfl) _) rfl rfl ?_
   refine GoR.nil ?_
   refine Go1.condF rfl rfl ?_
   refine Go1.skip ?_
   refine Go1.seq ?_
   refine Go1.seq ?_
   refine Go1.region ?_
   refine GoR.op ((op_move rfl) _) rfl rfl ?_
   refine GoR.op ((op_move rfl) _) rfl rfl ?_
   refine GoR.op ((op_move rfl) _) rfl rfl ?_
   refine GoR.op ((op_move rfl) _) rfl rfl ?_
   refine GoR.call (op_call body43 rfl (walk_ref14_Value hO.lt h_a0 h_a1 hs_a3 H)) rfl rfl ?_
   rintro v124 w121 ⟨r120, rfl, hs122, H⟩
   have hst125 := Stp.same hO hs122
   replace hO := hst125.own
   replace h_a0 := h_a0.ch hst125.ch
   replace h_a1 := h_a1.ch hst125.ch
   replace hB := hB.trans hst125.fr
   by_cases h126 : r101 = r120
   ·replace H := ifp h126 H
    refine GoR.op ((fun w => opB (op_neq rfl rfl w) (ndT h126)) _) rfl rfl ?_
    refine GoR.nil ?_
    refine Go1.condF rfl rfl ?_
    refine Go1.skip ?_
    refine Go1.seq ?_
    refine Go1.region ?_
    refine GoR.op ((op_move rfl) _) rfl rfl ?_
    refine GoR.op ((op_move rfl) _) rfl rfl ?_
    refine GoR.op ((op_move rfl) _) rfl rfl ?_
    refine GoR.call (op_call body42 rfl (walk_mult_Value hO.lt h_a0 h_a1 hs_a2 H)) rfl rfl ?_
    rintro v131 w128 ⟨r127, rfl, hs129, H⟩
    have hst132 := Stp.same hO hs129
    replace hO := hst132.own
    replace h_a0 := h_a0.ch hst132.ch
    replace h_a1 := h_a1.ch hst132.ch
    replace hB := hB.trans hst132.fr
    refine GoR.op ((op_assign rfl) _) rfl rfl ?_
    refine GoR.nil ?_
    refine Go1.seq ?_
    refine Go1.seq ?_
    refine Go1.region ?_
    refine GoR.op ((op_move rfl) _) rfl rfl ?_
    by_cases h133 : r101 < (0 : Int)
    ·replace H := ifp h133 H
     refine GoR.op ((fun w => opB (op_lss rfl rfl w) (decide_eq_true h133)) _) rfl rfl ?_
     refine GoR.op ((op_move rfl) _) rfl rfl ?_
     refine GoR.pass rfl rfl ?_
     refine GoR.pass rfl rfl ?_
     refine GoR.op ((op_pickT rfl rfl rfl) _) rfl rfl ?_
     refine GoR.op ((op_move rfl) _) rfl rfl ?_
     refine GoR.pass rfl rfl ?_
     refine GoR.pass rfl rfl ?_
     refine GoR.pass rfl rfl ?_
     refine GoR.pass rfl rfl ?_
     refine GoR.pass rfl rfl ?_
     refine GoR.op ((op_pickT rfl rfl rfl) _) rfl rfl ?_
     refine GoR.nil ?_
     refine Go1.condT rfl rfl ?_
     refine Go1.seq ?_
     refine Go1.region ?_
     refine GoR.call (op_call body16 rfl (walk_law14_awake hO.lt H)) rfl rfl ?_
     rintro v138 w135 ⟨r134, rfl, hs136, H⟩
     have hst139 := Stp.same hO hs136
     replace hO := hst139.own
     replace h_a0 := h_a0.ch hst139.ch
     replace h_a1 := h_a1.ch hst139.ch
     replace hB := hB.trans hst139.fr
     refine GoR.op ((op_assign rfl) _) rfl rfl ?_
     refine GoR.nil ?_
     refine Go1.ret1 Try.func9 rfl ?_
     exact ⟨r134, rfl, hB.same, H⟩
    ·replace H := ifn h133 H
     refine GoR.op ((fun w => opB (op_lss rfl rfl w) (decide_eq_false h133)) _) rfl rfl ?_
     refine GoR.op ((op_move rfl) _) rfl rfl ?_
     refine GoR.op ((op_move rfl) _) rfl rfl ?_
     by_cases h140 : r127 < (0 : Int)
     ·replace H := ifp h140 H
      refine GoR.op ((fun w => opB (op_lss rfl rfl w) (decide_eq_true h140)) _) rfl rfl ?_
      refine GoR.op ((op_pickF rfl rfl rfl) _) rfl rfl ?_
      refine GoR.op ((op_move rfl) _) rfl rfl ?_
      refine GoR.pass rfl rfl ?_
      refine GoR.pass rfl rfl ?_
      refine GoR.pass rfl rfl ?_
      refine GoR.pass rfl rfl ?_
      refine GoR.pass rfl rfl ?_
      refine GoR.op ((op_pickT rfl rfl rfl) _) rfl rfl ?_
      refine GoR.nil ?_
      refine Go1.condT rfl rfl ?_
      refine Go1.seq ?_
      refine Go1.region ?_
      refine GoR.call (op_call body16 rfl (walk_law14_awake hO.lt H)) rfl rfl ?_
      rintro v145 w142 ⟨r141, rfl, hs143, H⟩
      have hst146 := Stp.same hO hs143
      replace hO := hst146.own
      replace h_a0 := h_a0.ch hst146.ch
      replace h_a1 := h_a1.ch hst146.ch
      replace hB := hB.trans hst146.fr
      refine GoR.op ((op_assign rfl) _) rfl rfl ?_
      refine GoR.nil ?_
      refine Go1.ret1 Try.func9 rfl ?_
      exact ⟨r141, rfl, hB.same, H⟩
     ·replace H := ifn h140 H
      refine GoR.op ((fun w => opB (op_lss rfl rfl w) (decide_eq_false h140)) _) rfl rfl ?_
      refine GoR.op ((op_pickF rfl rfl rfl) _) rfl rfl ?_
      refine GoR.op ((op_move rfl) _) rfl rfl ?_
      refine GoR.op ((op_move rfl) _) rfl rfl ?_
      refine GoR.op ((op_move rfl) _) rfl rfl ?_
      obtain ⟨h147, H⟩ := H
      refine GoR.op ((op_addS rfl rfl h147) _) rfl rfl ?_
      refine GoR.call (op_call body44 rfl (walk_ref01_Valid hO.lt (lenApp h147) H)) rfl rfl ?_
      rintro v152 w149 ⟨r148, rfl, hs150, H⟩
      have hst153 := Stp.same hO hs150
      replace hO := hst153.own
      replace h_a0 := h_a0.ch hst153.ch
      replace h_a1 := h_a1.ch hst153.ch
      replace hB := hB.trans hst153.fr
      cases r148
      ·replace H := ifn Bool.false_ne_true H
       refine GoR.op ((op_not rfl) _) rfl rfl ?_
       refine GoR.op ((op_pickF rfl rfl rfl) _) rfl rfl ?_
       refine GoR.nil ?_
       refine Go1.condT rfl rfl ?_
       refine Go1.seq ?_
       refine Go1.region ?_
       refine GoR.call (op_call body16 rfl (walk_law14_awake hO.lt H)) rfl rfl ?_
       rintro v158 w155 ⟨r154, rfl, hs156, H⟩
       have hst159 := Stp.same hO hs156
       replace hO := hst159.own
       replace h_a0 := h_a0.ch hst159.ch
       replace h_a1 := h_a1.ch hst159.ch
       replace hB := hB.trans hst159.fr
       refine GoR.op ((op_assign rfl) _) rfl rfl ?_
       refine GoR.nil ?_
       refine Go1.ret1 Try.func9 rfl ?_
       exact ⟨r154, rfl, hB.same, H⟩
      ·replace H := ifp rfl H
       refine GoR.op ((op_not rfl) _) rfl rfl ?_
       refine GoR.op ((op_pickF rfl rfl rfl) _) rfl rfl ?_
       refine GoR.nil ?_
       refine Go1.condF rfl rfl ?_
       refine Go1.skip ?_
       refine Go1.seq ?_
       refine Go1.drawS 0 [(0, .pure), (1, .pure), (2, .pure), (3, .pure), (4, .pure), (5, .pure), (6, .pure), (7, .pure), (8, .pure), (9, .pure), (10, .pure), (11, .pure), (12, .pure), (13, .pure), (14, .pure), (15, .pure), (17, .pure), (18, .pure), (19, .pure), (20, .stable), (21, .pure), (22, .pure), (23, .stable), (16, .loud), (24, .pure), (25, .pure), (26, .pure), (27, .loud), (28, .pure), (29, .pure)] mixed (by kernel_rfl) ?_
       intro w160 hs161
       have hst162 := Stp.same hO hs161
       replace hO := hst162.own
       replace h_a0 := h_a0.ch hst162.ch
       replace h_a1 := h_a1.ch hst162.ch
       replace hB := hB.trans hst162.fr
       refine GoQ.pure rfl (op_move rfl) rfl rfl ?_
       refine GoQ.pure rfl (op_move rfl) rfl rfl ?_
       refine GoQ.pure rfl (op_len Try.underlying22 rfl) rfl rfl ?_
       replace H := H h_a0.bd
       by_cases h163 : r127 < (a0.length : Int)
       ·replace H := ifp h163 H
        refine GoQ.pure rfl (fun w => opB (op_lss rfl rfl w) (decide_eq_true h163)) rfl rfl ?_
        refine GoQ.pure rfl (op_move rfl) rfl rfl ?_
        refine GoQ.pure rfl (op_move rfl) rfl rfl ?_
        refine GoQ.pure rfl (op_move rfl) rfl rfl ?_
        refine GoQ.pure rfl (op_len Try.underlying22 rfl) rfl rfl ?_
        by_cases h164 : r101 < (a0.length : Int)
        ·replace H := ifp h164 H
         refine GoQ.pure rfl (fun w => opB (op_lss rfl rfl w) (decide_eq_true h164)) rfl rfl ?_
         refine GoQ.pure rfl (op_pickT rfl rfl rfl) rfl rfl ?_
         refine GoQ.pure rfl (op_move rfl) rfl rfl ?_
         refine GoQ.pure rfl (op_move rfl) rfl rfl ?_
         refine GoQ.pure rfl (op_move rfl) rfl rfl ?_
         refine GoQ.pure rfl (op_move rfl) rfl rfl ?_
         refine GoQ.pure rfl (op_move rfl) rfl rfl ?_
         obtain ⟨h165, H⟩ := H
         refine GoQ.pure rfl (op_addS rfl rfl h165) rfl rfl ?_
         refine GoQ.pure rfl (op_move rfl) rfl rfl ?_
         refine GoQ.pure rfl (op_move rfl) rfl rfl ?_
         obtain ⟨h166, H⟩ := H
         obtain ⟨h167, H⟩ := H
         refine GoQ.pure rfl (op_index Try.underlying22 ti23 rfl rfl h166 h167 (h_a0.some_ h166 h167)) rfl rfl ?_
         have hobt := ldSl h_a0 h166 h167
         obtain ⟨p168, c169, hi170, hl171⟩ := hobt
         refine GoQ.stable rfl (hl171 Try.underlying23 rfl rfl) rfl rfl ?_
         refine GoQ.pure rfl (op_move rfl) rfl rfl ?_
         obtain ⟨h172, H⟩ := H
         obtain ⟨h173, H⟩ := H
         refine GoQ.pure rfl (op_index Try.underlying23 ti3 rfl rfl h172 h173 (hi170.some_ h172 h173)) rfl rfl ?_
         refine GoQ.stable rfl (ldInt hi170 h172 h173 Try.underlying3 rfl rfl) rfl rfl ?_
         refine GoQ.call rfl (op_call body42 rfl (walk_mult_Value hO.lt h_a0 h_a1 (lenApp h165) H)) (fun v w hr => by obtain ⟨_, _, hs, _⟩ := hr; assumption) rfl rfl ?_
         rintro v178 w175 ⟨r174, rfl, hs176, H⟩
         have hst179 := Stp.same hO hs176
         replace hO := hst179.own
         replace h_a0 := h_a0.ch hst179.ch
         replace h_a1 := h_a1.ch hst179.ch
         replace hi170 := hi170.ch hst179.ch
         replace hB := hB.trans hst179.fr
         by_cases h180 : r174 = (ix (ix a0 r127) r101)
         ·replace H := ifp h180 H
          refine GoQ.pure rfl (fun w => opB (op_eql rfl rfl w) (decide_eq_true h180)) rfl rfl ?_
          refine GoQ.pure rfl (op_pickT rfl rfl rfl) rfl rfl ?_
          refine GoQ.pure rfl (op_move rfl) rfl rfl ?_
          refine GoQ.call rfl (op_call body16 rfl (walk_law14_awake hO.lt H)) (fun v w hr => by obtain ⟨_, _, hs, _⟩ := hr; assumption) rfl rfl ?_
          rintro v185 w182 ⟨r181, rfl, hs183, H⟩
          have hst186 := Stp.same hO hs183
          replace hO := hst186.own
          replace h_a0 := h_a0.ch hst186.ch
          replace h_a1 := h_a1.ch hst186.ch
          replace hi170 := hi170.ch hst186.ch
          replace hB := hB.trans hst186.fr
          refine GoQ.pure rfl (op_pickT rfl rfl rfl) rfl rfl ?_
          refine GoQ.pure rfl (op_assign rfl) rfl rfl ?_
          refine GoQ.nil ?_
          refine Go1.ret1 Try.func9 rfl ?_
          exact ⟨r181, rfl, hB.same, H⟩
         ·replace H := ifn h180 H
          refine GoQ.pure rfl (fun w => opB (op_eql rfl rfl w) (decide_eq_false h180)) rfl rfl ?_
          refine GoQ.pure rfl (op_pickT rfl rfl rfl) rfl rfl ?_
          refine GoQ.pure rfl (op_move rfl) rfl rfl ?_
          refine GoQ.pass rfl rfl rfl ?_
          refine GoQ.pure rfl (op_pickF rfl rfl rfl) rfl rfl ?_
          refine GoQ.pure rfl (op_assign rfl) rfl rfl ?_
          refine GoQ.nil ?_
          refine Go1.ret1 Try.func9 rfl ?_
          exact ⟨false, rfl, hB.same, H⟩
        ·replace H := ifn h164 H
         refine GoQ.pure rfl (fun w => opB (op_lss rfl rfl w) (decide_eq_false h164)) rfl rfl ?_
         refine GoQ.pure rfl (op_pickT rfl rfl rfl) rfl rfl ?_
         refine GoQ.pure rfl (op_move rfl) rfl rfl ?_
         refine GoQ.pass rfl rfl rfl ?_
         refine GoQ.pass rfl rfl rfl ?_
         refine GoQ.pass rfl rfl rfl ?_
         refine GoQ.pass rfl rfl rfl ?_
         refine GoQ.pass rfl rfl rfl ?_
         refine GoQ.pass rfl rfl rfl ?_
         refine GoQ.pass rfl rfl rfl ?_
         refine GoQ.pass rfl rfl rfl ?_
         refine GoQ.pass rfl rfl rfl ?_
         refine GoQ.pass rfl rfl rfl ?_
         refine GoQ.pass rfl rfl rfl ?_
         refine GoQ.pass rfl rfl rfl ?_
         refine GoQ.pass rfl rfl rfl ?_
         refine GoQ.pass rfl rfl rfl ?_
         refine GoQ.pure rfl (op_pickF rfl rfl rfl) rfl rfl ?_
         refine GoQ.pure rfl (op_move rfl) rfl rfl ?_
         refine GoQ.pass rfl rfl rfl ?_
         refine GoQ.pure rfl (op_pickF rfl rfl rfl) rfl rfl ?_
         refine GoQ.pure rfl (op_assign rfl) rfl rfl ?_
         refine GoQ.nil ?_
         refine Go1.ret1 Try.func9 rfl ?_
         exact ⟨false, rfl, hB.same, H⟩
       ·replace H := ifn h163 H
        refine GoQ.pure rfl (fun w => opB (op_lss rfl rfl w) (decide_eq_false h163)) rfl rfl ?_
        refine GoQ.pure rfl (op_move rfl) rfl rfl ?_
        refine GoQ.pass rfl rfl rfl ?_
        refine GoQ.pass rfl rfl rfl ?_
        refine GoQ.pass rfl rfl rfl ?_
        refine GoQ.pass rfl rfl rfl ?_
        refine GoQ.pure rfl (op_pickF rfl rfl rfl) rfl rfl ?_
        refine GoQ.pure rfl (op_move rfl) rfl rfl ?_
        refine GoQ.pass rfl rfl rfl ?_
        refine GoQ.pass rfl rfl rfl ?_
        refine GoQ.pass rfl rfl rfl ?_
        refine GoQ.pass rfl rfl rfl ?_
        refine GoQ.pass rfl rfl rfl ?_
        refine GoQ.pass rfl rfl rfl ?_
        refine GoQ.pass rfl rfl rfl ?_
        refine GoQ.pass rfl rfl rfl ?_
        refine GoQ.pass rfl rfl rfl ?_
        refine GoQ.pass rfl rfl rfl ?_
        refine GoQ.pass rfl rfl rfl ?_
        refine GoQ.pass rfl rfl rfl ?_
        refine GoQ.pass rfl rfl rfl ?_
        refine GoQ.pass rfl rfl rfl ?_
        refine GoQ.pure rfl (op_pickF rfl rfl rfl) rfl rfl ?_
        refine GoQ.pure rfl (op_move rfl) rfl rfl ?_
        refine GoQ.pass rfl rfl rfl ?_
        refine GoQ.pure rfl (op_pickF rfl rfl rfl) rfl rfl ?_
        refine GoQ.pure rfl (op_assign rfl) rfl rfl ?_
        refine GoQ.nil ?_
        refine Go1.ret1 Try.func9 rfl ?_
        exact ⟨false, rfl, hB.same, H⟩
   ·replace H := ifn h126 H
    refine GoR.op ((fun w => opB (op_neq rfl rfl w) (ndF h126)) _) rfl rfl ?_
    refine GoR.nil ?_
    refine Go1.condT rfl rfl ?_
    refine Go1.seq ?_
    refine Go1.region ?_
    refine GoR.op ((op_assign rfl) _) rfl rfl ?_
    refine GoR.nil ?_
    refine Go1.ret1 Try.func9 rfl ?_
    exact ⟨false, rfl, hB.same, H⟩
end Sg
