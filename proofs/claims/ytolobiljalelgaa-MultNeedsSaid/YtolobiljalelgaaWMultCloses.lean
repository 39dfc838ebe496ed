/- The walks: each call keeps to its plain transformer. Printed by walkgen.py. -/
import Derived.Test.YtolobiljalelgaaTi
import Derived.Test.YtolobiljalelgaaWMultGeneratesb
namespace Sg
open Go Go.RowKit Go.Proofs
set_option linter.unusedVariables false
set_option maxRecDepth 100000
set_option maxHeartbeats 4000000
theorem body30 : Body Try.prog 30 := ⟨Try.f30, Try.func30, rfl, by kernel_rfl⟩
theorem walk_law14_small {A : List Nat} {w0 : World} {p_t : Option Addr} {c_t : Nat} {t : List (List Int)} {most : Int} (hA : ∀ b ∈ A, b < w0.heap.size) (h_t : ISl (Rp.sl (Rp.int .i64)) A w0 p_t c_t t) {K : Bool → Prop} (H : law14_small t most K) :
    CallsV Try.prog 30 #[.slice p_t t.length c_t, .int .i64 most] w0 (fun v w' => ∃ (r0 : Bool), v = .bool r0 ∧ Same w0 w' ∧ K r0) := by
 refine CallsV.of (l := [.slice p_t t.length c_t, .int .i64 most]) Try.func30 rfl Try.ntmps30 rfl ?_
 have hO := Owns.start hA
 have hB := Fr.refl (bl []) w0
 unfold law14_small at H
 replace h_t := h_t.ch (Ch.start A w0)
 refine Go1.seq ?_
 refine Go1.region ?_
 refine GoR.op ((op_assign rfl) _) rfl rfl ?_
 refine GoR.nil ?_
 refine Go1.seq ?_
 refine Go1.region ?_
 refine GoR.op ((op_move rfl) _) rfl rfl ?_
 refine GoR.op ((op_len Try.underlying22 rfl) _) rfl rfl ?_
 replace H := H h_t.bd
 refine GoR.op ((op_move rfl) _) rfl rfl ?_
 by_cases h1 : (t.length : Int) ≤ most
 ·replace H := ifp h1 H
  refine GoR.op ((fun w => opB (op_leq rfl rfl w) (decide_eq_true h1)) _) rfl rfl ?_
  refine GoR.op ((op_move rfl) _) rfl rfl ?_
  refine GoR.op ((op_move rfl) _) rfl rfl ?_
  refine GoR.call (op_call body26 rfl (walk_ref14_Valid hO.lt h_t H)) rfl rfl ?_
  rintro v6 w3 ⟨r2, rfl, hs4, H⟩
  have hst7 := Stp.same hO hs4
  replace hO := hst7.own
  replace h_t := h_t.ch hst7.ch
  replace hB := hB.trans hst7.fr
  refine GoR.op ((op_pickT rfl rfl rfl) _) rfl rfl ?_
  refine GoR.op ((op_assign rfl) _) rfl rfl ?_
  refine GoR.nil ?_
  refine Go1.ret1 Try.func30 rfl ?_
  exact ⟨r2, rfl, hB.same, H⟩
 ·replace H := ifn h1 H
  refine GoR.op ((fun w => opB (op_leq rfl rfl w) (decide_eq_false h1)) _) rfl rfl ?_
  refine GoR.op ((op_move rfl) _) rfl rfl ?_
  refine GoR.pass rfl rfl ?_
  refine GoR.pass rfl rfl ?_
  refine GoR.op ((op_pickF rfl rfl rfl) _) rfl rfl ?_
  refine GoR.op ((op_assign rfl) _) rfl rfl ?_
  refine GoR.nil ?_
  refine Go1.ret1 Try.func30 rfl ?_
  exact ⟨false, rfl, hB.same, H⟩
theorem body14 : Body Try.prog 14 := ⟨Try.f14, Try.func14, rfl, by kernel_rfl⟩
theorem walk_law14_MultCloses {A : List Nat} {w0 : World} {p_a0 : Option Addr} {c_a0 : Nat} {p_a1 : Option Addr} {c_a1 : Nat} {p_a2 : Option Addr} {c_a2 : Nat} {a0 : List (List Int)} {a1 : List Int} {a2 : List Int} (hA : ∀ b ∈ A, b < w0.heap.size) (h_a0 : ISl (Rp.sl (Rp.int .i64)) A w0 p_a0 c_a0 a0) (h_a1 : ISl (Rp.int .i64) A w0 p_a1 c_a1 a1) (h_a2 : ISl (Rp.int .i64) A w0 p_a2 c_a2 a2) {K : Bool → Prop} (H : law14_MultCloses a0 a1 a2 K) :
    CallsV Try.prog 14 #[.slice p_a0 a0.length c_a0, .slice p_a1 a1.length c_a1, .slice p_a2 a2.length c_a2] w0 (fun v w' => ∃ (r0 : Bool), v = .bool r0 ∧ Same w0 w' ∧ K r0) := by
 refine CallsV.of (l := [.slice p_a0 a0.length c_a0, .slice p_a1 a1.length c_a1, .slice p_a2 a2.length c_a2]) Try.func14 rfl Try.ntmps14 rfl ?_
 have hO := Owns.start hA
 have hB := Fr.refl (bl []) w0
 unfold law14_MultCloses at H
 replace h_a0 := h_a0.ch (Ch.start A w0)
 replace h_a1 := h_a1.ch (Ch.start A w0)
 replace h_a2 := h_a2.ch (Ch.start A w0)
 refine Go1.seq ?_
 refine Go1.region ?_
 refine GoR.op ((op_assign rfl) _) rfl rfl ?_
 refine GoR.nil ?_
 refine Go1.seq ?_
 refine Go1.seq ?_
 refine Go1.region ?_
 refine GoR.op ((op_move rfl) _) rfl rfl ?_
 refine GoR.call (op_call body30 rfl (walk_law14_small hO.lt h_a0 H)) rfl rfl ?_
 rintro v5 w2 ⟨r1, rfl, hs3, H⟩
 have hst6 := Stp.same hO hs3
 replace hO := hst6.own
 replace h_a0 := h_a0.ch hst6.ch
 replace h_a1 := h_a1.ch hst6.ch
 replace h_a2 := h_a2.ch hst6.ch
 replace hB := hB.trans hst6.fr
 cases r1
 ·replace H := ifn Bool.false_ne_true H
  refine GoR.op ((op_not rfl) _) rfl rfl ?_
  refine GoR.op ((op_move rfl) _) rfl rfl ?_
  refine GoR.pass rfl rfl ?_
  refine GoR.pass rfl rfl ?_
  refine GoR.pass rfl rfl ?_
  refine GoR.pass rfl rfl ?_
  refine GoR.op ((op_pickT rfl rfl rfl) _) rfl rfl ?_
  refine GoR.op ((op_move rfl) _) rfl rfl ?_
  refine GoR.pass rfl rfl ?_
  refine GoR.pass rfl rfl ?_
  refine GoR.pass rfl rfl ?_
  refine GoR.op ((op_pickT rfl rfl rfl) _) rfl rfl ?_
  refine GoR.nil ?_
  refine Go1.condT rfl rfl ?_
  refine Go1.seq ?_
  refine Go1.region ?_
  refine GoR.call (op_call body16 rfl (walk_law14_awake hO.lt H)) rfl rfl ?_
  rintro v11 w8 ⟨r7, rfl, hs9, H⟩
  have hst12 := Stp.same hO hs9
  replace hO := hst12.own
  replace h_a0 := h_a0.ch hst12.ch
  replace h_a1 := h_a1.ch hst12.ch
  replace h_a2 := h_a2.ch hst12.ch
  replace hB := hB.trans hst12.fr
  refine GoR.op ((op_assign rfl) _) rfl rfl ?_
  refine GoR.nil ?_
  refine Go1.ret1 Try.func14 rfl ?_
  exact ⟨r7, rfl, hB.same, H⟩
 ·replace H := ifp rfl H
  refine GoR.op ((op_not rfl) _) rfl rfl ?_
  refine GoR.op ((op_move rfl) _) rfl rfl ?_
  refine GoR.op ((op_move rfl) _) rfl rfl ?_
  refine GoR.op ((op_move rfl) _) rfl rfl ?_
  refine GoR.call (op_call body20 rfl (walk_ref14_In hO.lt h_a0 h_a1 H)) rfl rfl ?_
  rintro v17 w14 ⟨r13, rfl, hs15, H⟩
  have hst18 := Stp.same hO hs15
  replace hO := hst18.own
  replace h_a0 := h_a0.ch hst18.ch
  replace h_a1 := h_a1.ch hst18.ch
  replace h_a2 := h_a2.ch hst18.ch
  replace hB := hB.trans hst18.fr
  cases r13
  ·replace H := ifn Bool.false_ne_true H
   refine GoR.op ((op_not rfl) _) rfl rfl ?_
   refine GoR.op ((op_pickF rfl rfl rfl) _) rfl rfl ?_
   refine GoR.op ((op_move rfl) _) rfl rfl ?_
   refine GoR.pass rfl rfl ?_
   refine GoR.pass rfl rfl ?_
   refine GoR.pass rfl rfl ?_
   refine GoR.op ((op_pickT rfl rfl rfl) _) rfl rfl ?_
   refine GoR.nil ?_
   refine Go1.condT rfl rfl ?_
   refine Go1.seq ?_
   refine Go1.region ?_
   refine GoR.call (op_call body16 rfl (walk_law14_awake hO.lt H)) rfl rfl ?_
   rintro v23 w20 ⟨r19, rfl, hs21, H⟩
   have hst24 := Stp.same hO hs21
   replace hO := hst24.own
   replace h_a0 := h_a0.ch hst24.ch
   replace h_a1 := h_a1.ch hst24.ch
   replace h_a2 := h_a2.ch hst24.ch
   replace hB := hB.trans hst24.fr
   refine GoR.op ((op_assign rfl) _) rfl rfl ?_
   refine GoR.nil ?_
   refine Go1.ret1 Try.func14 rfl ?_
   exact ⟨r19, rfl, hB.same, H⟩
  ·replace H := ifp rfl H
   refine GoR.op ((op_not rfl) _) rfl rfl ?_
   refine GoR.op ((op_pickF rfl rfl rfl) _) rfl rfl ?_
   refine GoR.op ((op_move rfl) _) rfl rfl ?_
   refine GoR.op ((op_move rfl) _) rfl rfl ?_
   refine GoR.op ((op_len Try.underlying23 rfl) _) rfl rfl ?_
   replace H := H h_a1.bd
   by_cases h25 : (a1.length : Int) = (0 : Int)
   ·replace H := ifp h25 H
    refine GoR.op ((fun w => opB (op_eql rfl rfl w) (decide_eq_true h25)) _) rfl rfl ?_
    refine GoR.op ((op_pickF rfl rfl rfl) _) rfl rfl ?_
    refine GoR.nil ?_
    refine Go1.condT rfl rfl ?_
    refine Go1.seq ?_
    refine Go1.region ?_
    refine GoR.call (op_call body16 rfl (walk_law14_awake hO.lt H)) rfl rfl ?_
    rintro v30 w27 ⟨r26, rfl, hs28, H⟩
    have hst31 := Stp.same hO hs28
    replace hO := hst31.own
    replace h_a0 := h_a0.ch hst31.ch
    replace h_a1 := h_a1.ch hst31.ch
    replace h_a2 := h_a2.ch hst31.ch
    replace hB := hB.trans hst31.fr
    refine GoR.op ((op_assign rfl) _) rfl rfl ?_
    refine GoR.nil ?_
    refine Go1.ret1 Try.func14 rfl ?_
    exact ⟨r26, rfl, hB.same, H⟩
   ·replace H := ifn h25 H
    refine GoR.op ((fun w => opB (op_eql rfl rfl w) (decide_eq_false h25)) _) rfl rfl ?_
    refine GoR.op ((op_pickF rfl rfl rfl) _) rfl rfl ?_
    refine GoR.nil ?_
    refine Go1.condF rfl rfl ?_
    refine Go1.skip ?_
    refine Go1.seq ?_
    refine Go1.region ?_
    refine GoR.op ((op_move rfl) _) rfl rfl ?_
    refine GoR.op ((op_move rfl) _) rfl rfl ?_
    refine GoR.call (op_call body58 rfl (walk_mult_Generated hO.lt h_a0 h_a1 H)) rfl rfl ?_
    rintro v36 w33 ⟨r32, p_r32, c_r32, rfl, hs34, h_r32, H⟩
    have hst37 := Stp.same hO hs34
    replace hO := hst37.own
    replace h_a0 := h_a0.ch hst37.ch
    replace h_a1 := h_a1.ch hst37.ch
    replace h_a2 := h_a2.ch hst37.ch
    replace hB := hB.trans hst37.fr
    refine GoR.op ((op_assign rfl) _) rfl rfl ?_
    refine GoR.nil ?_
    refine Go1.seq ?_
    refine Go1.region ?_
    refine GoR.op ((op_move rfl) _) rfl rfl ?_
    refine GoR.op ((op_move rfl) _) rfl rfl ?_
    refine GoR.call (op_call body59 rfl (walk_mult_Sub hO.lt h_a0 h_r32 H)) rfl rfl ?_
    rintro v43 w40 ⟨r38, r39, p_r38, c_r38, rfl, hs41, h_r38, H⟩
    have hst44 := Stp.same hO hs41
    replace hO := hst44.own
    replace h_a0 := h_a0.ch hst44.ch
    replace h_a1 := h_a1.ch hst44.ch
    replace h_a2 := h_a2.ch hst44.ch
    replace h_r32 := h_r32.ch hst44.ch
    replace hB := hB.trans hst44.fr
    refine GoR.op ((op_move rfl) _) rfl rfl ?_
    refine GoR.op ((op_extract rfl rfl) _) rfl rfl ?_
    refine GoR.op ((op_extract rfl rfl) _) rfl rfl ?_
    refine GoR.op ((op_assign rfl) _) rfl rfl ?_
    refine GoR.op ((op_assign rfl) _) rfl rfl ?_
    refine GoR.nil ?_
    refine Go1.seq ?_
    refine Go1.seq ?_
    refine Go1.region ?_
    refine GoR.op ((op_move rfl) _) rfl rfl ?_
    by_cases h45 : r39 = (0 : Int)
    ·replace H := ifp h45 H
     refine GoR.op ((fun w => opB (op_neq rfl rfl w) (ndT h45)) _) rfl rfl ?_
     refine GoR.op ((op_move rfl) _) rfl rfl ?_
     refine GoR.op ((op_move rfl) _) rfl rfl ?_
     refine GoR.call (op_call body22 rfl (walk_mult_Validate hO.lt h_r38 H)) rfl rfl ?_
     rintro v50 w47 ⟨r46, rfl, hs48, H⟩
     have hst51 := Stp.same hO hs48
     replace hO := hst51.own
     replace h_a0 := h_a0.ch hst51.ch
     replace h_a1 := h_a1.ch hst51.ch
     replace h_a2 := h_a2.ch hst51.ch
     replace h_r32 := h_r32.ch hst51.ch
     replace h_r38 := h_r38.ch hst51.ch
     replace hB := hB.trans hst51.fr
     by_cases h52 : r46 = (0 : Int)
     ·replace H := ifp h52 H
      refine GoR.op ((fun w => opB (op_neq rfl rfl w) (ndT h52)) _) rfl rfl ?_
      refine GoR.op ((op_pickF rfl rfl rfl) _) rfl rfl ?_
      refine GoR.op ((op_move rfl) _) rfl rfl ?_
      refine GoR.op ((op_move rfl) _) rfl rfl ?_
      refine GoR.op ((op_len Try.underlying22 rfl) _) rfl rfl ?_
      replace H := H h_r38.bd
      refine GoR.op ((op_move rfl) _) rfl rfl ?_
      refine GoR.op ((op_len Try.underlying23 rfl) _) rfl rfl ?_
      replace H := H h_r32.bd
      by_cases h53 : (r38.length : Int) = (r32.length : Int)
      ·replace H := ifp h53 H
       refine GoR.op ((fun w => opB (op_neq rfl rfl w) (ndT h53)) _) rfl rfl ?_
       refine GoR.op ((op_pickF rfl rfl rfl) _) rfl rfl ?_
       refine GoR.nil ?_
       refine Go1.condF rfl rfl ?_
       refine Go1.skip ?_
       refine Go1.seq ?_
       refine Go1.region ?_
       refine GoR.op ((op_move rfl) _) rfl rfl ?_
       refine GoR.op ((op_move rfl) _) rfl rfl ?_
       refine GoR.op ((op_len Try.underlying22 rfl) _) rfl rfl ?_
       replace H := H h_a0.bd
       refine GoR.call (op_call body61 rfl (walk_ref03_Set hO.lt h_r32 H)) rfl rfl ?_
       rintro v59 w56 ⟨r54, n_r54, p_r54, c_r54, vs_r54, rfl, hs57, hN58, hE55, H⟩
       have hst60 := Stp.more hO hs57 hN58
       replace hO := hst60.own
       replace h_a0 := h_a0.ch hst60.ch
       replace h_a1 := h_a1.ch hst60.ch
       replace h_a2 := h_a2.ch hst60.ch
       replace h_r32 := h_r32.ch hst60.ch
       replace h_r38 := h_r38.ch hst60.ch
       replace hB := hB.trans hst60.fr
       replace hE55 := hE55.ch (Ch.assoc _ _ _ _)
       refine GoR.op ((op_assign rfl) _) rfl rfl ?_
       refine GoR.nil ?_
       refine Go1.seq ?_
       refine Go1.seq ?_
       refine Go1.region ?_
       refine GoR.op ((op_move rfl) _) rfl rfl ?_
       refine GoR.op ((op_len Try.underlying23 rfl) _) rfl rfl ?_
       refine GoR.op ((op_move rfl) _) rfl rfl ?_
       refine GoR.nil ?_
       refine Go1.block ?_
       refine Go1.loopW (S := Nat) (fun s σ w => agrees σ [(0, .slice p_a0 a0.length c_a0), (1, .slice p_a1 a1.length c_a1), (2, .slice p_a2 a2.length c_a2), (7, .slice p_r32 r32.length c_r32), (10, .slice p_r54 n_r54 c_r54), (62, .slice p_a1 a1.length c_a1), (63, .int .i64 (a1.length : Int)), (64, .int .i64 (s : Int))] ∧ Owns w0.heap.size w [.row 4 1 p_r54 n_r54 c_r54 vs_r54] A ∧ Els (Rp.bool) (bl [.row 4 1 p_r54 n_r54 c_r54 vs_r54] ++ A) w vs_r54 r54 ∧ ISl (Rp.sl (Rp.int .i64)) (bl [.row 4 1 p_r54 n_r54 c_r54 vs_r54] ++ A) w p_a0 c_a0 a0 ∧ ISl (Rp.int .i64) (bl [.row 4 1 p_r54 n_r54 c_r54 vs_r54] ++ A) w p_a1 c_a1 a1 ∧ ISl (Rp.int .i64) (bl [.row 4 1 p_r54 n_r54 c_r54 vs_r54] ++ A) w p_a2 c_a2 a2 ∧ ISl (Rp.int .i64) (bl [.row 4 1 p_r54 n_r54 c_r54 vs_r54] ++ A) w p_r32 c_r32 r32 ∧ Fr (bl []) w0 (bl [.row 4 1 p_r54 n_r54 c_r54 vs_r54]) w) H ⟨⟨rfl, rfl, rfl, rfl, rfl, rfl, rfl, rfl, trivial⟩, hO, hE55, h_a0, h_a1, h_a2, h_r32, hB⟩ ?_
       rintro X1 k1_63 H hX1 σ w62 ⟨hag, hO, hE55, h_a0, h_a1, h_a2, h_r32, hB⟩
       refine Go1.keep [(0, .slice p_a0 a0.length c_a0), (1, .slice p_a1 a1.length c_a1), (2, .slice p_a2 a2.length c_a2), (7, .slice p_r32 r32.length c_r32), (10, .slice p_r54 n_r54 c_r54), (62, .slice p_a1 a1.length c_a1), (63, .int .i64 (a1.length : Int)), (64, .int .i64 (k1_63 : Int))] hag ?_
       refine Go1.seq ?_
       refine Go1.region ?_
       by_cases h64 : (k1_63 : Int) < (a1.length : Int)
       ·replace H := ifp h64 H
        refine GoR.op ((fun w => opB (op_lss rfl rfl w) (decide_eq_true h64)) _) rfl rfl ?_
        refine GoR.nil ?_
        refine Go1.seq ?_
        refine Go1.condT rfl rfl ?_
        refine Go1.skip ?_
        refine Go1.seq ?_
        refine Go1.block ?_
        refine Go1.seq ?_
        refine Go1.region ?_
        obtain ⟨h65, H⟩ := H
        obtain ⟨h66, H⟩ := H
        refine GoR.op ((op_index Try.underlying23 ti3 rfl rfl h65 h66 (h_a1.some_ h65 h66)) _) rfl rfl ?_
        refine GoR.op ((ldInt h_a1 h65 h66 Try.underlying3 rfl rfl) _ (Same.refl _)) rfl rfl ?_
        refine GoR.op ((op_assign rfl) _) rfl rfl ?_
        refine GoR.nil ?_
        refine Go1.seq ?_
        refine Go1.region ?_
        refine GoR.op ((op_move rfl) _) rfl rfl ?_
        refine GoR.op ((op_move rfl) _) rfl rfl ?_
        obtain ⟨h67, H⟩ := H
        obtain ⟨h68, H⟩ := H
        refine GoR.op ((op_index Try.underlying54 ti4 rfl rfl h67 (ltn (hE55.neq hO 0 rfl) h68) (hE55.psome hO 0 rfl h67 h68)) _) rfl rfl ?_
        by_cases h69 : ix r54 (ix a1 (k1_63 : Int)) = true
        ·replace H := ifp h69 H
         refine GoR.op (opB ((oldBool 0 hO rfl hE55 h67 h68 Try.underlying4 rfl rfl) _ (Same.refl _)) (h69)) rfl rfl ?_
         refine GoR.op ((op_not rfl) _) rfl rfl ?_
         refine GoR.nil ?_
         refine Go1.condF rfl rfl ?_
         refine Go1.skip ?_
         refine Go1.inBlock ?_
         refine Go1.region ?_
         refine GoR.op ((op_add rfl rfl (wrap_i64 (natbd h64 h_a1.bd))) _) rfl rfl ?_
         refine GoR.op ((op_move rfl) _) rfl rfl ?_
         refine GoR.nil ?_
         exact hX1 _ H _ _ ⟨⟨rfl, rfl, rfl, rfl, rfl, rfl, rfl, rfl, trivial⟩, hO, hE55, h_a0, h_a1, h_a2, h_r32, hB⟩
        ·replace H := ifn h69 H
         refine GoR.op (opB ((oldBool 0 hO rfl hE55 h67 h68 Try.underlying4 rfl rfl) _ (Same.refl _)) (Bool.eq_false_iff.2 h69)) rfl rfl ?_
         refine GoR.op ((op_not rfl) _) rfl rfl ?_
         refine GoR.nil ?_
         refine Go1.condT rfl rfl ?_
         refine Go1.seq ?_
         refine Go1.region ?_
         refine GoR.op ((op_assign rfl) _) rfl rfl ?_
         refine GoR.nil ?_
         refine Go1.ret1 Try.func14 rfl ?_
         exact ⟨false, rfl, hB.same, H⟩
       ·replace H := ifn h64 H
        refine GoR.op ((fun w => opB (op_lss rfl rfl w) (decide_eq_false h64)) _) rfl rfl ?_
        refine GoR.nil ?_
        refine Go1.seq ?_
        refine Go1.condF rfl rfl ?_
        refine Go1.exit rfl ?_
        refine Go1.seq ?_
        refine Go1.seq ?_
        refine Go1.region ?_
        refine GoR.op ((op_move rfl) _) rfl rfl ?_
        refine GoR.op ((op_move rfl) _) rfl rfl ?_
        refine GoR.call (op_call body59 rfl (walk_mult_Sub hO.lt h_a0 h_a2 H)) rfl rfl ?_
        rintro v75 w72 ⟨r70, r71, p_r70, c_r70, rfl, hs73, h_r70, H⟩
        have hst76 := Stp.same hO hs73
        replace hE55 := hE55.ch hst76.ch
        replace hO := hst76.own
        replace h_a0 := h_a0.ch hst76.ch
        replace h_a1 := h_a1.ch hst76.ch
        replace h_a2 := h_a2.ch hst76.ch
        replace h_r32 := h_r32.ch hst76.ch
        replace hB := hB.trans hst76.fr
        refine GoR.op ((op_move rfl) _) rfl rfl ?_
        refine GoR.op ((op_extract rfl rfl) _) rfl rfl ?_
        refine GoR.op ((op_extract rfl rfl) _) rfl rfl ?_
        refine GoR.op ((op_assign rfl) _) rfl rfl ?_
        refine GoR.op ((op_assign rfl) _) rfl rfl ?_
        refine GoR.nil ?_
        refine Go1.seq ?_
        refine Go1.region ?_
        refine GoR.op ((op_move rfl) _) rfl rfl ?_
        by_cases h77 : r71 = (0 : Int)
        ·replace H := ifp h77 H
         refine GoR.op ((fun w => opB (op_neq rfl rfl w) (ndT h77)) _) rfl rfl ?_
         refine GoR.nil ?_
         refine Go1.condF rfl rfl ?_
         refine Go1.skip ?_
         refine Go1.seq ?_
         refine Go1.region ?_
         refine GoR.op ((op_move rfl) _) rfl rfl ?_
         refine GoR.op ((op_move rfl) _) rfl rfl ?_
         refine GoR.op ((op_len Try.underlying22 rfl) _) rfl rfl ?_
         refine GoR.call (op_call body61 rfl (walk_ref03_Set hO.lt h_a2 H)) rfl rfl ?_
         rintro v83 w80 ⟨r78, n_r78, p_r78, c_r78, vs_r78, rfl, hs81, hN82, hE79, H⟩
         have hst84 := Stp.more hO hs81 hN82
         replace hE55 := hE55.ch hst84.ch
         replace hO := hst84.own
         replace h_a0 := h_a0.ch hst84.ch
         replace h_a1 := h_a1.ch hst84.ch
         replace h_a2 := h_a2.ch hst84.ch
         replace h_r32 := h_r32.ch hst84.ch
         replace h_r70 := h_r70.ch hst84.ch
         replace hB := hB.trans hst84.fr
         replace hE79 := hE79.ch (Ch.assoc _ _ _ _)
         refine GoR.op ((op_assign rfl) _) rfl rfl ?_
         refine GoR.nil ?_
         refine Go1.seq ?_
         refine Go1.seq ?_
         refine Go1.region ?_
         refine GoR.op ((op_move rfl) _) rfl rfl ?_
         refine GoR.op ((op_len Try.underlying23 rfl) _) rfl rfl ?_
         refine GoR.op ((op_move rfl) _) rfl rfl ?_
         refine GoR.nil ?_
         refine Go1.block ?_
         replace h_a0 := h_a0.ch (Owns.dropCh _ _ 1)
         replace h_a1 := h_a1.ch (Owns.dropCh _ _ 1)
         replace h_a2 := h_a2.ch (Owns.dropCh _ _ 1)
         replace h_r32 := h_r32.ch (Owns.dropCh _ _ 1)
         replace h_r70 := h_r70.ch (Owns.dropCh _ _ 1)
         replace hE79 := hE79.ch (Owns.dropCh _ _ 1)
         replace hB := hB.trans (Owns.dropFr _ _ 1)
         replace hO := hO.drop 1
         refine Go1.loopW (S := Nat) (fun s σ w => agrees σ [(7, .slice p_r32 r32.length c_r32), (15, .slice p_r78 n_r78 c_r78), (87, .slice p_a1 a1.length c_a1), (88, .int .i64 (a1.length : Int)), (89, .int .i64 (s : Int))] ∧ Owns w0.heap.size w [.row 4 1 p_r78 n_r78 c_r78 vs_r78] A ∧ Els (Rp.bool) (bl [.row 4 1 p_r78 n_r78 c_r78 vs_r78] ++ A) w vs_r78 r78 ∧ ISl (Rp.int .i64) (bl [.row 4 1 p_r78 n_r78 c_r78 vs_r78] ++ A) w p_a1 c_a1 a1 ∧ ISl (Rp.int .i64) (bl [.row 4 1 p_r78 n_r78 c_r78 vs_r78] ++ A) w p_r32 c_r32 r32 ∧ Fr (bl []) w0 (bl [.row 4 1 p_r78 n_r78 c_r78 vs_r78]) w) H ⟨⟨rfl, rfl, rfl, rfl, rfl, trivial⟩, hO, hE79, h_a1, h_r32, hB⟩ ?_
         rintro X2 k2_87 H hX2 σ w86 ⟨hag, hO, hE79, h_a1, h_r32, hB⟩
         refine Go1.keep [(7, .slice p_r32 r32.length c_r32), (15, .slice p_r78 n_r78 c_r78), (87, .slice p_a1 a1.length c_a1), (88, .int .i64 (a1.length : Int)), (89, .int .i64 (k2_87 : Int))] hag ?_
         refine Go1.seq ?_
         refine Go1.region ?_
         by_cases h88 : (k2_87 : Int) < (a1.length : Int)
         ·replace H := ifp h88 H
          refine GoR.op ((fun w => opB (op_lss rfl rfl w) (decide_eq_true h88)) _) rfl rfl ?_
          refine GoR.nil ?_
          refine Go1.seq ?_
          refine Go1.condT rfl rfl ?_
          refine Go1.skip ?_
          refine Go1.seq ?_
          refine Go1.block ?_
          refine Go1.seq ?_
          refine Go1.region ?_
          obtain ⟨h89, H⟩ := H
          obtain ⟨h90, H⟩ := H
          refine GoR.op ((op_index Try.underlying23 ti3 rfl rfl h89 h90 (h_a1.some_ h89 h90)) _) rfl rfl ?_
          refine GoR.op ((ldInt h_a1 h89 h90 Try.underlying3 rfl rfl) _ (Same.refl _)) rfl rfl ?_
          refine GoR.op ((op_assign rfl) _) rfl rfl ?_
          refine GoR.nil ?_
          refine Go1.seq ?_
          refine Go1.region ?_
          refine GoR.op ((op_move rfl) _) rfl rfl ?_
          refine GoR.op ((op_move rfl) _) rfl rfl ?_
          obtain ⟨h91, H⟩ := H
          obtain ⟨h92, H⟩ := H
          refine GoR.op ((op_index Try.underlying54 ti4 rfl rfl h91 (ltn (hE79.neq hO 0 rfl) h92) (hE79.psome hO 0 rfl h91 h92)) _) rfl rfl ?_
          by_cases h93 : ix r78 (ix a1 (k2_87 : Int)) = true
          ·replace H := ifp h93 H
           refine GoR.op (opB ((oldBool 0 hO rfl hE79 h91 h92 Try.underlying4 rfl rfl) _ (Same.refl _)) (h93)) rfl rfl ?_
           refine GoR.op ((op_not rfl) _) rfl rfl ?_
           refine GoR.nil ?_
           refine Go1.condF rfl rfl ?_
           refine Go1.skip ?_
           refine Go1.inBlock ?_
           refine Go1.region ?_
           refine GoR.op ((op_add rfl rfl (wrap_i64 (natbd h88 h_a1.bd))) _) rfl rfl ?_
           refine GoR.op ((op_move rfl) _) rfl rfl ?_
           refine GoR.nil ?_
           exact hX2 _ H _ _ ⟨⟨rfl, rfl, rfl, rfl, rfl, trivial⟩, hO, hE79, h_a1, h_r32, hB⟩
          ·replace H := ifn h93 H
           refine GoR.op (opB ((oldBool 0 hO rfl hE79 h91 h92 Try.underlying4 rfl rfl) _ (Same.refl _)) (Bool.eq_false_iff.2 h93)) rfl rfl ?_
           refine GoR.op ((op_not rfl) _) rfl rfl ?_
           refine GoR.nil ?_
           refine Go1.condT rfl rfl ?_
           refine Go1.seq ?_
           refine Go1.region ?_
           refine GoR.call (op_call body16 rfl (walk_law14_awake hO.lt H)) rfl rfl ?_
           rintro v98 w95 ⟨r94, rfl, hs96, H⟩
           have hst99 := Stp.same hO hs96
           replace hE79 := hE79.ch hst99.ch
           replace hO := hst99.own
           replace h_a1 := h_a1.ch hst99.ch
           replace h_r32 := h_r32.ch hst99.ch
           replace hB := hB.trans hst99.fr
           refine GoR.op ((op_assign rfl) _) rfl rfl ?_
           refine GoR.nil ?_
           refine Go1.ret1 Try.func14 rfl ?_
           exact ⟨r94, rfl, hB.same, H⟩
         ·replace H := ifn h88 H
          refine GoR.op ((fun w => opB (op_lss rfl rfl w) (decide_eq_false h88)) _) rfl rfl ?_
          refine GoR.nil ?_
          refine Go1.seq ?_
          refine Go1.condF rfl rfl ?_
          refine Go1.exit rfl ?_
          refine Go1.seq ?_
          refine Go1.seq ?_
          refine Go1.region ?_
          refine GoR.op ((op_move rfl) _) rfl rfl ?_
          refine GoR.op ((op_len Try.underlying23 rfl) _) rfl rfl ?_
          refine GoR.op ((op_move rfl) _) rfl rfl ?_
          refine GoR.nil ?_
          refine Go1.block ?_
          refine Go1.loopW (S := Nat) (fun s σ w => agrees σ [(15, .slice p_r78 n_r78 c_r78), (100, .slice p_r32 r32.length c_r32), (101, .int .i64 (r32.length : Int)), (102, .int .i64 (s : Int))] ∧ Owns w0.heap.size w [.row 4 1 p_r78 n_r78 c_r78 vs_r78] A ∧ Els (Rp.bool) (bl [.row 4 1 p_r78 n_r78 c_r78 vs_r78] ++ A) w vs_r78 r78 ∧ ISl (Rp.int .i64) (bl [.row 4 1 p_r78 n_r78 c_r78 vs_r78] ++ A) w p_r32 c_r32 r32 ∧ Fr (bl []) w0 (bl [.row 4 1 p_r78 n_r78 c_r78 vs_r78]) w) H ⟨⟨rfl, rfl, rfl, rfl, trivial⟩, hO, hE79, h_r32, hB⟩ ?_
          rintro X3 k3_101 H hX3 σ w100 ⟨hag, hO, hE79, h_r32, hB⟩
          refine Go1.keep [(15, .slice p_r78 n_r78 c_r78), (100, .slice p_r32 r32.length c_r32), (101, .int .i64 (r32.length : Int)), (102, .int .i64 (k3_101 : Int))] hag ?_
          refine Go1.seq ?_
          refine Go1.region ?_
          by_cases h102 : (k3_101 : Int) < (r32.length : Int)
          ·replace H := ifp h102 H
           refine GoR.op ((fun w => opB (op_lss rfl rfl w) (decide_eq_true h102)) _) rfl rfl ?_
           refine GoR.nil ?_
           refine Go1.seq ?_
           refine Go1.condT rfl rfl ?_
           refine Go1.skip ?_
           refine Go1.seq ?_
           refine Go1.block ?_
           refine Go1.seq ?_
           refine Go1.region ?_
           obtain ⟨h103, H⟩ := H
           obtain ⟨h104, H⟩ := H
           refine GoR.op ((op_index Try.underlying23 ti3 rfl rfl h103 h104 (h_r32.some_ h103 h104)) _) rfl rfl ?_
           refine GoR.op ((ldInt h_r32 h103 h104 Try.underlying3 rfl rfl) _ (Same.refl _)) rfl rfl ?_
           refine GoR.op ((op_assign rfl) _) rfl rfl ?_
           refine GoR.nil ?_
           refine Go1.seq ?_
           refine Go1.region ?_
           refine GoR.op ((op_move rfl) _) rfl rfl ?_
           refine GoR.op ((op_move rfl) _) rfl rfl ?_
           obtain ⟨h105, H⟩ := H
           obtain ⟨h106, H⟩ := H
           refine GoR.op ((op_index Try.underlying54 ti4 rfl rfl h105 (ltn (hE79.neq hO 0 rfl) h106) (hE79.psome hO 0 rfl h105 h106)) _) rfl rfl ?_
           by_cases h107 : ix r78 (ix r32 (k3_101 : Int)) = true
           ·replace H := ifp h107 H
            refine GoR.op (opB ((oldBool 0 hO rfl hE79 h105 h106 Try.underlying4 rfl rfl) _ (Same.refl _)) (h107)) rfl rfl ?_
            refine GoR.op ((op_not rfl) _) rfl rfl ?_
            refine GoR.nil ?_
            refine Go1.condF rfl rfl ?_
            refine Go1.skip ?_
            refine Go1.inBlock ?_
            refine Go1.region ?_
            refine GoR.op ((op_add rfl rfl (wrap_i64 (natbd h102 h_r32.bd))) _) rfl rfl ?_
            refine GoR.op ((op_move rfl) _) rfl rfl ?_
            refine GoR.nil ?_
            exact hX3 _ H _ _ ⟨⟨rfl, rfl, rfl, rfl, trivial⟩, hO, hE79, h_r32, hB⟩
           ·replace H := ifn h107 H
            refine GoR.op (opB ((oldBool 0 hO rfl hE79 h105 h106 Try.underlying4 rfl rfl) _ (Same.refl _)) (Bool.eq_false_iff.2 h107)) rfl rfl ?_
            refine GoR.op ((op_not rfl) _) rfl rfl ?_
            refine GoR.nil ?_
            refine Go1.condT rfl rfl ?_
            refine Go1.seq ?_
            refine Go1.region ?_
            refine GoR.op ((op_assign rfl) _) rfl rfl ?_
            refine GoR.nil ?_
            refine Go1.ret1 Try.func14 rfl ?_
            exact ⟨false, rfl, hB.same, H⟩
          ·replace H := ifn h102 H
           refine GoR.op ((fun w => opB (op_lss rfl rfl w) (decide_eq_false h102)) _) rfl rfl ?_
           refine GoR.nil ?_
           refine Go1.seq ?_
           refine Go1.condF rfl rfl ?_
           refine Go1.exit rfl ?_
           refine Go1.seq ?_
           refine Go1.region ?_
           refine GoR.call (op_call body16 rfl (walk_law14_awake hO.lt H)) rfl rfl ?_
           rintro v112 w109 ⟨r108, rfl, hs110, H⟩
           have hst113 := Stp.same hO hs110
           replace hE79 := hE79.ch hst113.ch
           replace hO := hst113.own
           replace h_r32 := h_r32.ch hst113.ch
           replace hB := hB.trans hst113.fr
           refine GoR.op ((op_assign rfl) _) rfl rfl ?_
           refine GoR.nil ?_
           refine Go1.ret1 Try.func14 rfl ?_
           exact ⟨r108, rfl, hB.same, H⟩
        ·replace H := ifn h77 H
         refine GoR.op ((fun w => opB (op_neq rfl rfl w) (ndF h77)) _) rfl rfl ?_
         refine GoR.nil ?_
         refine Go1.condT rfl rfl ?_
         refine Go1.seq ?_
         refine Go1.region ?_
         refine GoR.call (op_call body16 rfl (walk_law14_awake hO.lt H)) rfl rfl ?_
         rintro v118 w115 ⟨r114, rfl, hs116, H⟩
         have hst119 := Stp.same hO hs116
         replace hE55 := hE55.ch hst119.ch
         replace hO := hst119.own
         replace h_a0 := h_a0.ch hst119.ch
         replace h_a1 := h_a1.ch hst119.ch
         replace h_a2 := h_a2.ch hst119.ch
         replace h_r32 := h_r32.ch hst119.ch
         replace h_r70 := h_r70.ch hst119.ch
         replace hB := hB.trans hst119.fr
         refine GoR.op ((op_assign rfl) _) rfl rfl ?_
         refine GoR.nil ?_
         refine Go1.ret1 Try.func14 rfl ?_
         exact ⟨r114, rfl, hB.same, H⟩
      ·replace H := ifn h53 H
       refine GoR.op ((fun w => opB (op_neq rfl rfl w) (ndF h53)) _) rfl rfl ?_
       refine GoR.op ((op_pickF rfl rfl rfl) _) rfl rfl ?_
       refine GoR.nil ?_
       refine Go1.condT rfl rfl ?_
       refine Go1.seq ?_
       refine Go1.region ?_
       refine GoR.op ((op_assign rfl) _) rfl rfl ?_
       refine GoR.nil ?_
       refine Go1.ret1 Try.func14 rfl ?_
       exact ⟨false, rfl, hB.same, H⟩
     ·replace H := ifn h52 H
      refine GoR.op ((fun w => opB (op_neq rfl rfl w) (ndF h52)) _) rfl rfl ?_
      refine GoR.op ((op_pickF rfl rfl rfl) _) rfl rfl ?_
      refine GoR.op ((op_move rfl) _) rfl rfl ?_
      refine GoR.pass rfl rfl ?_
      refine GoR.pass rfl rfl ?_
      refine GoR.pass rfl rfl ?_
      refine GoR.pass rfl rfl ?_
      refine GoR.pass rfl rfl ?_
      refine GoR.op ((op_pickT rfl rfl rfl) _) rfl rfl ?_
      refine GoR.nil ?_
      refine Go1.condT rfl rfl ?_
      refine Go1.seq ?_
      refine Go1.region ?_
      refine GoR.op ((op_assign rfl) _) rfl rfl ?_
      refine GoR.nil ?_
      refine Go1.ret1 Try.func14 rfl ?_
      exact ⟨false, rfl, hB.same, H⟩
    ·replace H := ifn h45 H
     refine GoR.op ((fun w => opB (op_neq rfl rfl w) (ndF h45)) _) rfl rfl ?_
     refine GoR.op ((op_move rfl) _) rfl rfl ?_
     refine GoR.pass rfl rfl ?_
     refine GoR.pass rfl rfl ?_
     refine GoR.pass rfl rfl ?_
     refine GoR.op ((op_pickT rfl rfl rfl) _) rfl rfl ?_
     refine GoR.op ((op_move rfl) _) rfl rfl ?_
     refine GoR.pass rfl rfl ?_
     refine GoR.pass rfl rfl ?_
     refine GoR.pass rfl rfl ?_
     refine GoR.pass rfl rfl ?_
     refine GoR.pass rfl rfl ?_
     refine GoR.op ((op_pickT rfl rfl rfl) _) rfl rfl ?_
     refine GoR.nil ?_
     refine Go1.condT rfl rfl ?_
     refine Go1.seq ?_
     refine Go1.region ?_
     refine GoR.op ((op_assign rfl) _) rfl rfl ?_
     refine GoR.nil ?_
     refine Go1.ret1 Try.func14 rfl ?_
     exact ⟨false, rfl, hB.same, H⟩
end Sg
