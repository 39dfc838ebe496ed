/- The walks: each call keeps to its plain transformer. Printed by walkgen.py. -/
import Derived.Test.YtolobiljalelgaaTi
import Derived.Test.YtolobiljalelgaaWMultGenerates
namespace Sg
open Go Go.RowKit Go.Proofs
set_option linter.unusedVariables false
set_option maxRecDepth 100000
set_option maxHeartbeats 4000000
theorem body60 : Body Try.prog 60 := ⟨Try.f60, Try.func60, rfl, by kernel_rfl⟩
theorem walk_ref14_Sub {A : List Nat} {w0 : World} {p_a0 : Option Addr} {c_a0 : Nat} {p_a1 : Option Addr} {c_a1 : Nat} {a0 : List (List Int)} {a1 : List Int} (hA : ∀ b ∈ A, b < w0.heap.size) (h_a0 : ISl (Rp.sl (Rp.int .i64)) A w0 p_a0 c_a0 a0) (h_a1 : ISl (Rp.int .i64) A w0 p_a1 c_a1 a1) {K : List (List Int) → Int → Prop} (H : ref14_Sub a0 a1 K) :
    CallsV Try.prog 60 #[.slice p_a0 a0.length c_a0, .slice p_a1 a1.length c_a1] w0 (fun v w' => ∃ (r0 : List (List Int)), ∃ (r1 : Int), ∃ (p_r0 : Option Addr), ∃ (c_r0 : Nat), v = .tuple #[.slice p_r0 r0.length c_r0, .int .i64 r1] ∧ Same w0 w' ∧ ISl (Rp.sl (Rp.int .i64)) A w' p_r0 c_r0 r0 ∧ K r0 r1) := by
 refine CallsV.of (l := [.slice p_a0 a0.length c_a0, .slice p_a1 a1.length c_a1]) Try.func60 rfl Try.ntmps60 rfl ?_
 have hO := Owns.start hA
 have hB := Fr.refl (bl []) w0
 unfold ref14_Sub at H
 replace h_a0 := h_a0.ch (Ch.start A w0)
 replace h_a1 := h_a1.ch (Ch.start A w0)
 refine Go1.seq ?_
 refine Go1.region ?_
 refine GoR.op ((op_assign rfl) _) rfl rfl ?_
 refine GoR.op ((op_assign rfl) _) rfl rfl ?_
 refine GoR.nil ?_
 refine Go1.seq ?_
 refine Go1.seq ?_
 refine Go1.region ?_
 refine GoR.op ((op_move rfl) _) rfl rfl ?_
 refine GoR.call (op_call body69 rfl (walk_ref14_Validate hO.lt h_a0 H)) rfl rfl ?_
 rintro v5 w2 ⟨r1, rfl, hs3, H⟩
 have hst6 := Stp.same hO hs3
 replace hO := hst6.own
 replace h_a0 := h_a0.ch hst6.ch
 replace h_a1 := h_a1.ch hst6.ch
 replace hB := hB.trans hst6.fr
 refine GoR.op ((op_assign rfl) _) rfl rfl ?_
 refine GoR.nil ?_
 refine Go1.seq ?_
 refine Go1.region ?_
 refine GoR.op ((op_move rfl) _) rfl rfl ?_
 by_cases h7 : r1 = (0 : Int)
 ·replace H := ifp h7 H
  refine GoR.op ((fun w => opB (op_neq rfl rfl w) (ndT h7)) _) rfl rfl ?_
  refine GoR.nil ?_
  refine Go1.condF rfl rfl ?_
  refine Go1.skip ?_
  refine Go1.seq ?_
  refine Go1.seq ?_
  refine Go1.region ?_
  refine GoR.op ((op_move rfl) _) rfl rfl ?_
  refine GoR.op ((op_move rfl) _) rfl rfl ?_
  refine GoR.call (op_call body87 rfl (walk_ref14_Ascending hO.lt h_a0 h_a1 H)) rfl rfl ?_
  rintro v12 w9 ⟨r8, rfl, hs10, H⟩
  have hst13 := Stp.same hO hs10
  replace hO := hst13.own
  replace h_a0 := h_a0.ch hst13.ch
  replace h_a1 := h_a1.ch hst13.ch
  replace hB := hB.trans hst13.fr
  cases r8
  ·replace H := ifn Bool.false_ne_true H
   refine GoR.op ((op_not rfl) _) rfl rfl ?_
   refine GoR.nil ?_
   refine Go1.condT rfl rfl ?_
   refine Go1.seq ?_
   refine Go1.region ?_
   refine GoR.op ((op_assign rfl) _) rfl rfl ?_
   refine GoR.op ((op_assign rfl) _) rfl rfl ?_
   refine GoR.nil ?_
   refine Go1.ret2 Try.func60 rfl ?_
   exact ⟨([] : List (List Int)), (1 : Int), none, 0, rfl, hB.same, (ISl.null _ _ _), H⟩
  ·replace H := ifp rfl H
   refine GoR.op ((op_not rfl) _) rfl rfl ?_
   refine GoR.nil ?_
   refine Go1.condF rfl rfl ?_
   refine Go1.skip ?_
   refine Go1.seq ?_
   refine Go1.region ?_
   refine GoR.op ((op_move rfl) _) rfl rfl ?_
   refine GoR.op ((op_len Try.underlying22 rfl) _) rfl rfl ?_
   replace H := H h_a0.bd
   obtain ⟨h21, H⟩ := H
   obtain ⟨h22, H⟩ := H
   have hobt := omake (n := (a0.length : Int)) (r := Rp.int .i64) (d := (0 : Int)) Try.underlying23 ti3 (fun _ _ => rfl) rfl hO h21 h22 (by decide)
   obtain ⟨w14, p15, vs16, hst17, hE18, hs19, hop20⟩ := hobt
   refine GoR.op (hop20 rfl rfl) rfl rfl ?_
   replace hO := hst17.own
   replace h_a0 := h_a0.ch hst17.ch
   replace h_a1 := h_a1.ch hst17.ch
   replace hB := hB.trans hst17.fr
   refine GoR.op ((op_assign rfl) _) rfl rfl ?_
   refine GoR.nil ?_
   refine Go1.seq ?_
   refine Go1.seq ?_
   refine Go1.region ?_
   refine GoR.op ((op_move rfl) _) rfl rfl ?_
   refine GoR.op ((op_lenN Try.underlying23 rfl (hE18.neq hO 0 rfl)) _) rfl rfl ?_
   refine GoR.op ((op_move rfl) _) rfl rfl ?_
   refine GoR.nil ?_
   refine Go1.block ?_
   refine Go1.loopW (S := Nat × List Int) (fun s σ w => ∃ (vs27 : List Value), agrees σ [(0, .slice p_a0 a0.length c_a0), (1, .slice p_a1 a1.length c_a1), (7, .slice p15 a0.length a0.length), (30, .int .i64 ((List.replicate a0.length ((0 : Int))).length : Int)), (31, .int .i64 ((s.1) : Int))] ∧ Owns w0.heap.size w [.row 3 1 p15 a0.length a0.length vs27] A ∧ Els (Rp.int .i64) (bl [.row 3 1 p15 a0.length a0.length vs27] ++ A) w vs27 (s.2) ∧ ISl (Rp.sl (Rp.int .i64)) (bl [.row 3 1 p15 a0.length a0.length vs27] ++ A) w p_a0 c_a0 a0 ∧ ISl (Rp.int .i64) (bl [.row 3 1 p15 a0.length a0.length vs27] ++ A) w p_a1 c_a1 a1 ∧ Fr (bl []) w0 (bl [.row 3 1 p15 a0.length a0.length vs27]) w) H ⟨vs16, ⟨rfl, rfl, rfl, rfl, rfl, trivial⟩, hO, hE18, h_a0, h_a1, hB⟩ ?_
   rintro X1 ⟨k1_25, d_26⟩ H hX1 σ w24 ⟨vs27, hag, hO, hE28, h_a0, h_a1, hB⟩
   dsimp only at H
   refine Go1.keep [(0, .slice p_a0 a0.length c_a0), (1, .slice p_a1 a1.length c_a1), (7, .slice p15 a0.length a0.length), (30, .int .i64 ((List.replicate a0.length ((0 : Int))).length : Int)), (31, .int .i64 (k1_25 : Int))] hag ?_
   refine Go1.seq ?_
   refine Go1.region ?_
   by_cases h29 : (k1_25 : Int) < ((List.replicate a0.length ((0 : Int))).length : Int)
   ·replace H := ifp h29 H
    refine GoR.op ((fun w => opB (op_lss rfl rfl w) (decide_eq_true h29)) _) rfl rfl ?_
    refine GoR.nil ?_
    refine Go1.seq ?_
    refine Go1.condT rfl rfl ?_
    refine Go1.skip ?_
    refine Go1.seq ?_
    refine Go1.block ?_
    refine Go1.seq ?_
    refine Go1.region ?_
    refine GoR.op ((op_move rfl) _) rfl rfl ?_
    refine GoR.op ((op_assign rfl) _) rfl rfl ?_
    refine GoR.nil ?_
    refine Go1.region ?_
    refine GoR.op ((op_move rfl) _) rfl rfl ?_
    refine GoR.op ((op_move rfl) _) rfl rfl ?_
    obtain ⟨h30, H⟩ := H
    obtain ⟨h31, H⟩ := H
    refine GoR.op ((op_index Try.underlying23 ti3 rfl rfl h30 (ltn (hE28.neq hO 0 rfl) h31) (hE28.psome hO 0 rfl h30 h31)) _) rfl rfl ?_
    have hobt := ost (r := Rp.int .i64) rfl 0 hO rfl hE28 h30 h31 (v := .int .i64 (-1 : Int)) (u := (-1 : Int)) rfl rfl
    obtain ⟨w32, vs33, hst34, hE35, hop36⟩ := hobt
    refine GoR.op (hop36 Try.underlying3 rfl ti3 rfl rfl) rfl rfl ?_
    replace hO := hst34.own
    replace h_a0 := h_a0.ch hst34.ch
    replace h_a1 := h_a1.ch hst34.ch
    replace hB := hB.trans hst34.fr
    refine GoR.nil ?_
    refine Go1.inBlock ?_
    refine Go1.region ?_
    obtain ⟨h37, H⟩ := H
    refine GoR.op ((op_add rfl rfl (wrap_i64 h37)) _) rfl rfl ?_
    refine GoR.op ((op_move rfl) _) rfl rfl ?_
    refine GoR.nil ?_
    exact hX1 _ H _ _ ⟨vs33, ⟨rfl, rfl, rfl, rfl, rfl, trivial⟩, hO, hE35, h_a0, h_a1, hB⟩
   ·replace H := ifn h29 H
    refine GoR.op ((fun w => opB (op_lss rfl rfl w) (decide_eq_false h29)) _) rfl rfl ?_
    refine GoR.nil ?_
    refine Go1.seq ?_
    refine Go1.condF rfl rfl ?_
    refine Go1.exit rfl ?_
    refine Go1.seq ?_
    refine Go1.seq ?_
    refine Go1.region ?_
    refine GoR.op ((op_move rfl) _) rfl rfl ?_
    refine GoR.op ((op_len Try.underlying23 rfl) _) rfl rfl ?_
    replace H := H h_a1.bd
    refine GoR.op ((op_move rfl) _) rfl rfl ?_
    refine GoR.nil ?_
    refine Go1.block ?_
    refine Go1.loopW (S := Nat × List Int) (fun s σ w => ∃ (vs41 : List Value), agrees σ [(0, .slice p_a0 a0.length c_a0), (1, .slice p_a1 a1.length c_a1), (7, .slice p15 a0.length a0.length), (38, .slice p_a1 a1.length c_a1), (39, .int .i64 (a1.length : Int)), (40, .int .i64 ((s.1) : Int))] ∧ Owns w0.heap.size w [.row 3 1 p15 a0.length a0.length vs41] A ∧ Els (Rp.int .i64) (bl [.row 3 1 p15 a0.length a0.length vs41] ++ A) w vs41 (s.2) ∧ ISl (Rp.sl (Rp.int .i64)) (bl [.row 3 1 p15 a0.length a0.length vs41] ++ A) w p_a0 c_a0 a0 ∧ ISl (Rp.int .i64) (bl [.row 3 1 p15 a0.length a0.length vs41] ++ A) w p_a1 c_a1 a1 ∧ Fr (bl []) w0 (bl [.row 3 1 p15 a0.length a0.length vs41]) w) H ⟨vs27, ⟨rfl, rfl, rfl, rfl, rfl, rfl, trivial⟩, hO, hE28, h_a0, h_a1, hB⟩ ?_
    rintro X2 ⟨k2_39, d_40⟩ H hX2 σ w38 ⟨vs41, hag, hO, hE42, h_a0, h_a1, hB⟩
    dsimp only at H
    refine Go1.keep [(0, .slice p_a0 a0.length c_a0), (1, .slice p_a1 a1.length c_a1), (7, .slice p15 a0.length a0.length), (38, .slice p_a1 a1.length c_a1), (39, .int .i64 (a1.length : Int)), (40, .int .i64 (k2_39 : Int))] hag ?_
    refine Go1.seq ?_
    refine Go1.region ?_
    by_cases h43 : (k2_39 : Int) < (a1.length : Int)
    ·replace H := ifp h43 H
     refine GoR.op ((fun w => opB (op_lss rfl rfl w) (decide_eq_true h43)) _) rfl rfl ?_
     refine GoR.nil ?_
     refine Go1.seq ?_
     refine Go1.condT rfl rfl ?_
     refine Go1.skip ?_
     refine Go1.seq ?_
     refine Go1.block ?_
     refine Go1.seq ?_
     refine Go1.region ?_
     refine GoR.op ((op_move rfl) _) rfl rfl ?_
     obtain ⟨h44, H⟩ := H
     obtain ⟨h45, H⟩ := H
     refine GoR.op ((op_index Try.underlying23 ti3 rfl rfl h44 h45 (h_a1.some_ h44 h45)) _) rfl rfl ?_
     refine GoR.op ((ldInt h_a1 h44 h45 Try.underlying3 rfl rfl) _ (Same.refl _)) rfl rfl ?_
     refine GoR.op ((op_assign rfl) _) rfl rfl ?_
     refine GoR.op ((op_assign rfl) _) rfl rfl ?_
     refine GoR.nil ?_
     refine Go1.region ?_
     refine GoR.op ((op_move rfl) _) rfl rfl ?_
     refine GoR.op ((op_move rfl) _) rfl rfl ?_
     refine GoR.op ((op_move rfl) _) rfl rfl ?_
     obtain ⟨h46, H⟩ := H
     obtain ⟨h47, H⟩ := H
     refine GoR.op ((op_index Try.underlying23 ti3 rfl rfl h46 (ltn (hE42.neq hO 0 rfl) h47) (hE42.psome hO 0 rfl h46 h47)) _) rfl rfl ?_
     have hobt := ost (r := Rp.int .i64) rfl 0 hO rfl hE42 h46 h47 (v := .int .i64 (k2_39 : Int)) (u := (k2_39 : Int)) rfl rfl
     obtain ⟨w48, vs49, hst50, hE51, hop52⟩ := hobt
     refine GoR.op (hop52 Try.underlying3 rfl ti3 rfl rfl) rfl rfl ?_
     replace hO := hst50.own
     replace h_a0 := h_a0.ch hst50.ch
     replace h_a1 := h_a1.ch hst50.ch
     replace hB := hB.trans hst50.fr
     refine GoR.nil ?_
     refine Go1.inBlock ?_
     refine Go1.region ?_
     refine GoR.op ((op_add rfl rfl (wrap_i64 (natbd h43 h_a1.bd))) _) rfl rfl ?_
     refine GoR.op ((op_move rfl) _) rfl rfl ?_
     refine GoR.nil ?_
     exact hX2 _ H _ _ ⟨vs49, ⟨rfl, rfl, rfl, rfl, rfl, rfl, trivial⟩, hO, hE51, h_a0, h_a1, hB⟩
    ·replace H := ifn h43 H
     refine GoR.op ((fun w => opB (op_lss rfl rfl w) (decide_eq_false h43)) _) rfl rfl ?_
     refine GoR.nil ?_
     refine Go1.seq ?_
     refine Go1.condF rfl rfl ?_
     refine Go1.exit rfl ?_
     refine Go1.seq ?_
     refine Go1.region ?_
     refine GoR.op ((op_assign rfl) _) rfl rfl ?_
     refine GoR.nil ?_
     refine Go1.seq ?_
     refine Go1.seq ?_
     refine Go1.region ?_
     refine GoR.op ((op_move rfl) _) rfl rfl ?_
     refine GoR.op ((op_len Try.underlying23 rfl) _) rfl rfl ?_
     refine GoR.op ((op_move rfl) _) rfl rfl ?_
     refine GoR.nil ?_
     refine Go1.block ?_
     have hst54 := Stp.nil (e := 23) (r := 1) hO
     replace hE42 := hE42.ch hst54.ch
     replace hO := hst54.own
     replace h_a0 := h_a0.ch hst54.ch
     replace h_a1 := h_a1.ch hst54.ch
     replace hB := hB.trans hst54.fr
     have hE55 := Els.nil (Rp.sl (Rp.int .i64)) (bl (.row 23 1 none 0 0 [] :: [.row 3 1 p15 a0.length a0.length vs41]) ++ A) w38
     refine Go1.loopW (S := Nat × List (List Int)) (fun s σ w => ∃ (n63 : Nat), ∃ (p61 : Option Addr), ∃ (c62 : Nat), ∃ (vs59 : List Value), agrees σ [(0, .slice p_a0 a0.length c_a0), (1, .slice p_a1 a1.length c_a1), (7, .slice p15 a0.length a0.length), (11, .slice p61 n63 c62), (50, .slice p_a1 a1.length c_a1), (51, .int .i64 (a1.length : Int)), (52, .int .i64 ((s.1) : Int))] ∧ Owns w0.heap.size w [.row 23 1 p61 n63 c62 vs59, .row 3 1 p15 a0.length a0.length vs41] A ∧ Els (Rp.sl (Rp.int .i64)) (bl [.row 23 1 p61 n63 c62 vs59, .row 3 1 p15 a0.length a0.length vs41] ++ A) w vs59 (s.2) ∧ Els (Rp.int .i64) (bl [.row 23 1 p61 n63 c62 vs59, .row 3 1 p15 a0.length a0.length vs41] ++ A) w vs41 d_40 ∧ ISl (Rp.sl (Rp.int .i64)) (bl [.row 23 1 p61 n63 c62 vs59, .row 3 1 p15 a0.length a0.length vs41] ++ A) w p_a0 c_a0 a0 ∧ ISl (Rp.int .i64) (bl [.row 23 1 p61 n63 c62 vs59, .row 3 1 p15 a0.length a0.length vs41] ++ A) w p_a1 c_a1 a1 ∧ Fr (bl []) w0 (bl [.row 23 1 p61 n63 c62 vs59, .row 3 1 p15 a0.length a0.length vs41]) w) H ⟨0, none, 0, [], ⟨rfl, rfl, rfl, rfl, rfl, rfl, rfl, trivial⟩, hO, hE55, hE42, h_a0, h_a1, hB⟩ ?_
     rintro X3 ⟨k3_57, d_58⟩ H hX3 σ w56 ⟨n63, p61, c62, vs59, hag, hO, hE60, hE42, h_a0, h_a1, hB⟩
     dsimp only at H
     refine Go1.keep [(0, .slice p_a0 a0.length c_a0), (1, .slice p_a1 a1.length c_a1), (7, .slice p15 a0.length a0.length), (11, .slice p61 n63 c62), (50, .slice p_a1 a1.length c_a1), (51, .int .i64 (a1.length : Int)), (52, .int .i64 (k3_57 : Int))] hag ?_
     refine Go1.seq ?_
     refine Go1.region ?_
     by_cases h64 : (k3_57 : Int) < (a1.length : Int)
     ·replace H := ifp h64 H
      refine GoR.op ((fun w => opB (op_lss rfl rfl w) (decide_eq_true h64)) _) rfl rfl ?_
      refine GoR.nil ?_
      refine Go1.seq ?_
      refine Go1.condT rfl rfl ?_
      refine Go1.skip ?_
      refine Go1.seq ?_
      refine Go1.block ?_
      refine Go1.seq ?_
      refine Go1.region ?_
      obtain ⟨h65, H⟩ := H
      obtain ⟨h66, H⟩ := H
      refine GoR.op ((op_index Try.underlying23 ti3 rfl rfl h65 h66 (h_a1.some_ h65 h66)) _) rfl rfl ?_
      refine GoR.op ((ldInt h_a1 h65 h66 Try.underlying3 rfl rfl) _ (Same.refl _)) rfl rfl ?_
      refine GoR.op ((op_assign rfl) _) rfl rfl ?_
      refine GoR.nil ?_
      refine Go1.seq ?_
      refine Go1.region ?_
      refine GoR.op ((op_assign rfl) _) rfl rfl ?_
      refine GoR.nil ?_
      refine Go1.seq ?_
      refine Go1.seq ?_
      refine Go1.region ?_
      refine GoR.op ((op_move rfl) _) rfl rfl ?_
      refine GoR.op ((op_len Try.underlying23 rfl) _) rfl rfl ?_
      refine GoR.op ((op_move rfl) _) rfl rfl ?_
      refine GoR.nil ?_
      refine Go1.block ?_
      have hst68 := Stp.nil (e := 3) (r := 1) hO
      replace hE60 := hE60.ch hst68.ch
      replace hE42 := hE42.ch hst68.ch
      replace hO := hst68.own
      replace h_a0 := h_a0.ch hst68.ch
      replace h_a1 := h_a1.ch hst68.ch
      replace hB := hB.trans hst68.fr
      have hE69 := Els.nil (Rp.int .i64) (bl (.row 3 1 none 0 0 [] :: [.row 23 1 p61 n63 c62 vs59, .row 3 1 p15 a0.length a0.length vs41]) ++ A) w56
      refine Go1.loopW (S := Nat × List Int) (fun s σ w => ∃ (n77 : Nat), ∃ (p75 : Option Addr), ∃ (c76 : Nat), ∃ (vs73 : List Value), agrees σ [(0, .slice p_a0 a0.length c_a0), (1, .slice p_a1 a1.length c_a1), (7, .slice p15 a0.length a0.length), (11, .slice p61 n63 c62), (13, .int .i64 (ix a1 (k3_57 : Int))), (14, .slice p75 n77 c76), (50, .slice p_a1 a1.length c_a1), (51, .int .i64 (a1.length : Int)), (52, .int .i64 (k3_57 : Int)), (56, .slice p_a1 a1.length c_a1), (57, .int .i64 (a1.length : Int)), (58, .int .i64 ((s.1) : Int))] ∧ Owns w0.heap.size w [.row 3 1 p75 n77 c76 vs73, .row 23 1 p61 n63 c62 vs59, .row 3 1 p15 a0.length a0.length vs41] A ∧ Els (Rp.int .i64) (bl [.row 3 1 p75 n77 c76 vs73, .row 23 1 p61 n63 c62 vs59, .row 3 1 p15 a0.length a0.length vs41] ++ A) w vs73 (s.2) ∧ Els (Rp.sl (Rp.int .i64)) (bl [.row 3 1 p75 n77 c76 vs73, .row 23 1 p61 n63 c62 vs59, .row 3 1 p15 a0.length a0.length vs41] ++ A) w vs59 d_58 ∧ Els (Rp.int .i64) (bl [.row 3 1 p75 n77 c76 vs73, .row 23 1 p61 n63 c62 vs59, .row 3 1 p15 a0.length a0.length vs41] ++ A) w vs41 d_40 ∧ ISl (Rp.sl (Rp.int .i64)) (bl [.row 3 1 p75 n77 c76 vs73, .row 23 1 p61 n63 c62 vs59, .row 3 1 p15 a0.length a0.length vs41] ++ A) w p_a0 c_a0 a0 ∧ ISl (Rp.int .i64) (bl [.row 3 1 p75 n77 c76 vs73, .row 23 1 p61 n63 c62 vs59, .row 3 1 p15 a0.length a0.length vs41] ++ A) w p_a1 c_a1 a1 ∧ Fr (bl []) w0 (bl [.row 3 1 p75 n77 c76 vs73, .row 23 1 p61 n63 c62 vs59, .row 3 1 p15 a0.length a0.length vs41]) w) H ⟨0, none, 0, [], ⟨rfl, rfl, rfl, rfl, rfl, rfl, rfl, rfl, rfl, rfl, rfl, rfl, trivial⟩, hO, hE69, hE60, hE42, h_a0, h_a1, hB⟩ ?_
      rintro X4 ⟨k4_71, d_72⟩ H hX4 σ w70 ⟨n77, p75, c76, vs73, hag, hO, hE74, hE60, hE42, h_a0, h_a1, hB⟩
      dsimp only at H
      refine Go1.keep [(0, .slice p_a0 a0.length c_a0), (1, .slice p_a1 a1.length c_a1), (7, .slice p15 a0.length a0.length), (11, .slice p61 n63 c62), (13, .int .i64 (ix a1 (k3_57 : Int))), (14, .slice p75 n77 c76), (50, .slice p_a1 a1.length c_a1), (51, .int .i64 (a1.length : Int)), (52, .int .i64 (k3_57 : Int)), (56, .slice p_a1 a1.length c_a1), (57, .int .i64 (a1.length : Int)), (58, .int .i64 (k4_71 : Int))] hag ?_
      refine Go1.seq ?_
      refine Go1.region ?_
      by_cases h78 : (k4_71 : Int) < (a1.length : Int)
      ·replace H := ifp h78 H
       refine GoR.op ((fun w => opB (op_lss rfl rfl w) (decide_eq_true h78)) _) rfl rfl ?_
       refine GoR.nil ?_
       refine Go1.seq ?_
       refine Go1.condT rfl rfl ?_
       refine Go1.skip ?_
       refine Go1.seq ?_
       refine Go1.block ?_
       refine Go1.seq ?_
       refine Go1.region ?_
       obtain ⟨h79, H⟩ := H
       obtain ⟨h80, H⟩ := H
       refine GoR.op ((op_index Try.underlying23 ti3 rfl rfl h79 h80 (h_a1.some_ h79 h80)) _) rfl rfl ?_
       refine GoR.op ((ldInt h_a1 h79 h80 Try.underlying3 rfl rfl) _ (Same.refl _)) rfl rfl ?_
       refine GoR.op ((op_assign rfl) _) rfl rfl ?_
       refine GoR.nil ?_
       refine Go1.seq ?_
       refine Go1.seq ?_
       refine Go1.region ?_
       refine GoR.op ((op_move rfl) _) rfl rfl ?_
       refine GoR.op ((op_move rfl) _) rfl rfl ?_
       refine GoR.op ((op_move rfl) _) rfl rfl ?_
       obtain ⟨h81, H⟩ := H
       obtain ⟨h82, H⟩ := H
       refine GoR.op ((op_index Try.underlying22 ti23 rfl rfl h81 h82 (h_a0.some_ h81 h82)) _) rfl rfl ?_
       have hobt := ldSl h_a0 h81 h82
       obtain ⟨p83, c84, hi85, hl86⟩ := hobt
       refine GoR.op ((hl86 Try.underlying23 rfl rfl) _ (Same.refl _)) rfl rfl ?_
       refine GoR.op ((op_move rfl) _) rfl rfl ?_
       obtain ⟨h87, H⟩ := H
       obtain ⟨h88, H⟩ := H
       refine GoR.op ((op_index Try.underlying23 ti3 rfl rfl h87 h88 (hi85.some_ h87 h88)) _) rfl rfl ?_
       refine GoR.op ((ldInt hi85 h87 h88 Try.underlying3 rfl rfl) _ (Same.refl _)) rfl rfl ?_
       obtain ⟨h89, H⟩ := H
       obtain ⟨h90, H⟩ := H
       refine GoR.op ((op_index Try.underlying23 ti3 rfl rfl h89 (ltn (hE42.neq hO 2 rfl) h90) (hE42.psome hO 2 rfl h89 h90)) _) rfl rfl ?_
       refine GoR.op ((oldInt 2 hO rfl hE42 h89 h90 Try.underlying3 rfl rfl) _ (Same.refl _)) rfl rfl ?_
       by_cases h91 : (ix d_40 (ix (ix a0 (ix a1 (k3_57 : Int))) (ix a1 (k4_71 : Int)))) < (0 : Int)
       ·replace H := ifp h91 H
        refine GoR.op ((fun w => opB (op_lss rfl rfl w) (decide_eq_true h91)) _) rfl rfl ?_
        refine GoR.nil ?_
        refine Go1.condT rfl rfl ?_
        refine Go1.seq ?_
        refine Go1.region ?_
        refine GoR.op ((op_assign rfl) _) rfl rfl ?_
        refine GoR.op ((op_assign rfl) _) rfl rfl ?_
        refine GoR.nil ?_
        refine Go1.ret2 Try.func60 rfl ?_
        exact ⟨([] : List (List Int)), (9 : Int), none, 0, rfl, hB.same, (ISl.null _ _ _), H⟩
       ·replace H := ifn h91 H
        refine GoR.op ((fun w => opB (op_lss rfl rfl w) (decide_eq_false h91)) _) rfl rfl ?_
        refine GoR.nil ?_
        refine Go1.condF rfl rfl ?_
        refine Go1.skip ?_
        refine Go1.region ?_
        refine GoR.op ((op_move rfl) _) rfl rfl ?_
        refine GoR.op ((op_move rfl) _) rfl rfl ?_
        refine GoR.op ((op_move rfl) _) rfl rfl ?_
        refine GoR.op ((op_move rfl) _) rfl rfl ?_
        obtain ⟨h92, H⟩ := H
        obtain ⟨h93, H⟩ := H
        refine GoR.op ((op_index Try.underlying22 ti23 rfl rfl h92 h93 (h_a0.some_ h92 h93)) _) rfl rfl ?_
        have hobt := ldSl h_a0 h92 h93
        obtain ⟨p94, c95, hi96, hl97⟩ := hobt
        refine GoR.op ((hl97 Try.underlying23 rfl rfl) _ (Same.refl _)) rfl rfl ?_
        refine GoR.op ((op_move rfl) _) rfl rfl ?_
        obtain ⟨h98, H⟩ := H
        obtain ⟨h99, H⟩ := H
        refine GoR.op ((op_index Try.underlying23 ti3 rfl rfl h98 h99 (hi96.some_ h98 h99)) _) rfl rfl ?_
        refine GoR.op ((ldInt hi96 h98 h99 Try.underlying3 rfl rfl) _ (Same.refl _)) rfl rfl ?_
        obtain ⟨h100, H⟩ := H
        obtain ⟨h101, H⟩ := H
        refine GoR.op ((op_index Try.underlying23 ti3 rfl rfl h100 (ltn (hE42.neq hO 2 rfl) h101) (hE42.psome hO 2 rfl h100 h101)) _) rfl rfl ?_
        refine GoR.op ((oldInt 2 hO rfl hE42 h100 h101 Try.underlying3 rfl rfl) _ (Same.refl _)) rfl rfl ?_
        have hobt := obuild (r := Rp.int .i64) (n := 1) (parts := [(0, .int .i64 (ix d_40 (ix (ix a0 (ix a1 (k3_57 : Int))) (ix a1 (k4_71 : Int)))))]) (vs := [.int .i64 (ix d_40 (ix (ix a0 (ix a1 (k3_57 : Int))) (ix a1 (k4_71 : Int))))]) (xs := [(ix d_40 (ix (ix a0 (ix a1 (k3_57 : Int))) (ix a1 (k4_71 : Int))))]) rfl Try.underlying23 ti3 hO (by decide) (by kernel_rfl) (Els.cons rfl rfl (Els.nil _ _ _) (by simp [mx])) rfl
        obtain ⟨w102, p103, hst104, hE105, hs106, hop107⟩ := hobt
        refine GoR.op (hop107 rfl) rfl rfl ?_
        replace hE74 := hE74.ch hst104.ch
        replace hE60 := hE60.ch hst104.ch
        replace hE42 := hE42.ch hst104.ch
        replace hO := hst104.own
        replace h_a0 := h_a0.ch hst104.ch
        replace h_a1 := h_a1.ch hst104.ch
        replace hi85 := hi85.ch hst104.ch
        replace hi96 := hi96.ch hst104.ch
        replace hB := hB.trans hst104.fr
        have hobt := freeze 0 hO rfl hE105
        obtain ⟨hO1, hc111, hi109, hn110⟩ := hobt
        replace h_a0 := h_a0.ch hc111
        replace h_a1 := h_a1.ch hc111
        replace hi85 := hi85.ch hc111
        replace hi96 := hi96.ch hc111
        replace hE74 := hE74.ch hc111
        replace hE60 := hE60.ch hc111
        replace hE42 := hE42.ch hc111
        replace hB := hB.trans (Owns.dropFr _ _ 0)
        replace hO := hO1; clear hO1
        obtain ⟨h112, H⟩ := H
        have hobt := oapp Try.underlying23 ti3 rfl 0 hO rfl hE74 hi109 hn110 h112 (by decide)
        obtain ⟨w113, p114, c115, vs116, hst117, hE118, hop119⟩ := hobt
        refine GoR.op (hop119 rfl rfl) rfl rfl ?_
        replace hE60 := hE60.ch hst117.ch
        replace hE42 := hE42.ch hst117.ch
        replace hO := hst117.own
        replace h_a0 := h_a0.ch hst117.ch
        replace h_a1 := h_a1.ch hst117.ch
        replace hi85 := hi85.ch hst117.ch
        replace hi96 := hi96.ch hst117.ch
        replace hi109 := hi109.ch hst117.ch
        replace hB := hB.trans hst117.fr
        refine GoR.op ((op_assign rfl) _) rfl rfl ?_
        refine GoR.nil ?_
        refine Go1.inBlock ?_
        refine Go1.region ?_
        refine GoR.op ((op_add rfl rfl (wrap_i64 (natbd h78 h_a1.bd))) _) rfl rfl ?_
        refine GoR.op ((op_move rfl) _) rfl rfl ?_
        refine GoR.nil ?_
        exact hX4 _ H _ _ ⟨n77 + 1, p114, c115, vs116, ⟨rfl, rfl, rfl, rfl, rfl, rfl, rfl, rfl, rfl, rfl, rfl, rfl, trivial⟩, hO, hE118, hE60, hE42, h_a0, h_a1, hB⟩
      ·replace H := ifn h78 H
       refine GoR.op ((fun w => opB (op_lss rfl rfl w) (decide_eq_false h78)) _) rfl rfl ?_
       refine GoR.nil ?_
       refine Go1.seq ?_
       refine Go1.condF rfl rfl ?_
       refine Go1.exit rfl ?_
       refine Go1.region ?_
       refine GoR.op ((op_move rfl) _) rfl rfl ?_
       refine GoR.op ((op_move rfl) _) rfl rfl ?_
       have hobt := freeze 0 hO rfl hE74
       obtain ⟨hO1, hc123, hi121, hn122⟩ := hobt
       replace h_a0 := h_a0.ch hc123
       replace h_a1 := h_a1.ch hc123
       replace hE60 := hE60.ch hc123
       replace hE42 := hE42.ch hc123
       replace hB := hB.trans (Owns.dropFr _ _ 0)
       replace hO := hO1; clear hO1
       have hobt := obuild (r := Rp.sl (Rp.int .i64)) (n := 1) (parts := [(0, .slice p75 n77 c76)]) (vs := [.slice p75 n77 c76]) (xs := [d_72]) rfl Try.underlying22 ti23 hO (by decide) (by kernel_rfl) (Els.cons rfl ⟨p75, c76, congrArg some (congrArg (fun nn => Value.slice p75 nn c76) hn122), hi121⟩ (Els.nil _ _ _) (by simp [mx])) rfl
       obtain ⟨w124, p125, hst126, hE127, hs128, hop129⟩ := hobt
       refine GoR.op (hop129 rfl) rfl rfl ?_
       replace hE60 := hE60.ch hst126.ch
       replace hE42 := hE42.ch hst126.ch
       replace hO := hst126.own
       replace h_a0 := h_a0.ch hst126.ch
       replace h_a1 := h_a1.ch hst126.ch
       replace hi121 := hi121.ch hst126.ch
       replace hB := hB.trans hst126.fr
       have hobt := freeze 0 hO rfl hE127
       obtain ⟨hO1, hc133, hi131, hn132⟩ := hobt
       replace h_a0 := h_a0.ch hc133
       replace h_a1 := h_a1.ch hc133
       replace hi121 := hi121.ch hc133
       replace hE60 := hE60.ch hc133
       replace hE42 := hE42.ch hc133
       replace hB := hB.trans (Owns.dropFr _ _ 0)
       replace hO := hO1; clear hO1
       obtain ⟨h134, H⟩ := H
       have hobt := oapp Try.underlying22 ti23 rfl 0 hO rfl hE60 hi131 hn132 h134 (by decide)
       obtain ⟨w135, p136, c137, vs138, hst139, hE140, hop141⟩ := hobt
       refine GoR.op (hop141 rfl rfl) rfl rfl ?_
       replace hE42 := hE42.ch hst139.ch
       replace hO := hst139.own
       replace h_a0 := h_a0.ch hst139.ch
       replace h_a1 := h_a1.ch hst139.ch
       replace hi121 := hi121.ch hst139.ch
       replace hi131 := hi131.ch hst139.ch
       replace hB := hB.trans hst139.fr
       refine GoR.op ((op_assign rfl) _) rfl rfl ?_
       refine GoR.nil ?_
       refine Go1.inBlock ?_
       refine Go1.region ?_
       refine GoR.op ((op_add rfl rfl (wrap_i64 (natbd h64 h_a1.bd))) _) rfl rfl ?_
       refine GoR.op ((op_move rfl) _) rfl rfl ?_
       refine GoR.nil ?_
       exact hX3 _ H _ _ ⟨n63 + 1, p136, c137, vs138, ⟨rfl, rfl, rfl, rfl, rfl, rfl, rfl, trivial⟩, hO, hE140, hE42, h_a0, h_a1, hB⟩
     ·replace H := ifn h64 H
      refine GoR.op ((fun w => opB (op_lss rfl rfl w) (decide_eq_false h64)) _) rfl rfl ?_
      refine GoR.nil ?_
      refine Go1.seq ?_
      refine Go1.condF rfl rfl ?_
      refine Go1.exit rfl ?_
      refine Go1.seq ?_
      refine Go1.region ?_
      refine GoR.op ((op_move rfl) _) rfl rfl ?_
      refine GoR.op ((op_assign rfl) _) rfl rfl ?_
      refine GoR.op ((op_assign rfl) _) rfl rfl ?_
      refine GoR.nil ?_
      have hobt := freeze 0 hO rfl hE60
      obtain ⟨hO1, hc145, hi143, hn144⟩ := hobt
      replace h_a0 := h_a0.ch hc145
      replace h_a1 := h_a1.ch hc145
      replace hE42 := hE42.ch hc145
      replace hB := hB.trans (Owns.dropFr _ _ 0)
      replace hO := hO1; clear hO1
      refine Go1.ret2 Try.func60 rfl ?_
      exact ⟨d_58, (0 : Int), p61, c62, (by show Value.tuple #[.slice p61 n63 c62, .int .i64 (0 : Int)] = _; rw [hn144]), hB.same, (hi143.ch (Ch.weak _ _ _)), H⟩
 ·replace H := ifn h7 H
  refine GoR.op ((fun w => opB (op_neq rfl rfl w) (ndF h7)) _) rfl rfl ?_
  refine GoR.nil ?_
  refine Go1.condT rfl rfl ?_
  refine Go1.seq ?_
  refine Go1.region ?_
  refine GoR.op ((op_move rfl) _) rfl rfl ?_
  refine GoR.op ((op_assign rfl) _) rfl rfl ?_
  refine GoR.op ((op_assign rfl) _) rfl rfl ?_
  refine GoR.nil ?_
  refine Go1.ret2 Try.func60 rfl ?_
  exact ⟨([] : List (List Int)), r1, none, 0, rfl, hB.same, (ISl.null _ _ _), H⟩
theorem body40 : Body Try.prog 40 := ⟨Try.f40, Try.func40, rfl, by kernel_rfl⟩
theorem walk_ref03_Same {A : List Nat} {w0 : World} {p_a : Option Addr} {c_a : Nat} {p_b : Option Addr} {c_b : Nat} {a : List Int} {b : List Int} (hA : ∀ b ∈ A, b < w0.heap.size) (h_a : ISl (Rp.int .i64) A w0 p_a c_a a) (h_b : ISl (Rp.int .i64) A w0 p_b c_b b) {K : Bool → Prop} (H : ref03_Same a b K) :
    CallsV Try.prog 40 #[.slice p_a a.length c_a, .slice p_b b.length c_b] w0 (fun v w' => ∃ (r0 : Bool), v = .bool r0 ∧ Same w0 w' ∧ K r0) := by
 refine CallsV.of (l := [.slice p_a a.length c_a, .slice p_b b.length c_b]) Try.func40 rfl Try.ntmps40 rfl ?_
 have hO := Owns.start hA
 have hB := Fr.refl (bl []) w0
 unfold ref03_Same at H
 replace h_a := h_a.ch (Ch.start A w0)
 replace h_b := h_b.ch (Ch.start A w0)
 refine Go1.seq ?_
 refine Go1.region ?_
 refine GoR.op ((op_assign rfl) _) rfl rfl ?_
 refine GoR.nil ?_
 refine Go1.seq ?_
 refine Go1.seq ?_
 refine Go1.region ?_
 refine GoR.op ((op_move rfl) _) rfl rfl ?_
 refine GoR.op ((op_len Try.underlying23 rfl) _) rfl rfl ?_
 replace H := H h_a.bd
 refine GoR.op ((op_move rfl) _) rfl rfl ?_
 refine GoR.op ((op_len Try.underlying23 rfl) _) rfl rfl ?_
 replace H := H h_b.bd
 by_cases h1 : (a.length : Int) = (b.length : Int)
 ·replace H := ifp h1 H
  refine GoR.op ((fun w => opB (op_neq rfl rfl w) (ndT h1)) _) rfl rfl ?_
  refine GoR.nil ?_
  refine Go1.condF rfl rfl ?_
  refine Go1.skip ?_
  refine Go1.seq ?_
  refine Go1.seq ?_
  refine Go1.region ?_
  refine GoR.op ((op_move rfl) _) rfl rfl ?_
  refine GoR.op ((op_len Try.underlying23 rfl) _) rfl rfl ?_
  refine GoR.op ((op_move rfl) _) rfl rfl ?_
  refine GoR.nil ?_
  refine Go1.block ?_
  refine Go1.loopW (S := Nat) (fun s σ w => agrees σ [(0, .slice p_a a.length c_a), (1, .slice p_b b.length c_b), (12, .int .i64 (a.length : Int)), (13, .int .i64 (s : Int))] ∧ Owns w0.heap.size w [] A ∧ ISl (Rp.int .i64) (bl [] ++ A) w p_a c_a a ∧ ISl (Rp.int .i64) (bl [] ++ A) w p_b c_b b ∧ Fr (bl []) w0 (bl []) w) H ⟨⟨rfl, rfl, rfl, rfl, trivial⟩, hO, h_a, h_b, hB⟩ ?_
  rintro X1 k1_3 H hX1 σ w2 ⟨hag, hO, h_a, h_b, hB⟩
  refine Go1.keep [(0, .slice p_a a.length c_a), (1, .slice p_b b.length c_b), (12, .int .i64 (a.length : Int)), (13, .int .i64 (k1_3 : Int))] hag ?_
  refine Go1.seq ?_
  refine Go1.region ?_
  by_cases h4 : (k1_3 : Int) < (a.length : Int)
  ·replace H := ifp h4 H
   refine GoR.op ((fun w => opB (op_lss rfl rfl w) (decide_eq_true h4)) _) rfl rfl ?_
   refine GoR.nil ?_
   refine Go1.seq ?_
   refine Go1.condT rfl rfl ?_
   refine Go1.skip ?_
   refine Go1.seq ?_
   refine Go1.block ?_
   refine Go1.seq ?_
   refine Go1.region ?_
   refine GoR.op ((op_move rfl) _) rfl rfl ?_
   refine GoR.op ((op_assign rfl) _) rfl rfl ?_
   refine GoR.nil ?_
   refine Go1.seq ?_
   refine Go1.drawS 0 [(0, .pure), (1, .pure), (2, .pure), (3, .stable), (4, .pure), (5, .pure), (6, .pure), (7, .stable), (8, .pure)] mixed (by kernel_rfl) ?_
   intro w5 hs6
   have hst7 := Stp.same hO hs6
   replace hO := hst7.own
   replace h_a := h_a.ch hst7.ch
   replace h_b := h_b.ch hst7.ch
   replace hB := hB.trans hst7.fr
   refine GoQ.pure rfl (op_move rfl) rfl rfl ?_
   refine GoQ.pure rfl (op_move rfl) rfl rfl ?_
   obtain ⟨h8, H⟩ := H
   obtain ⟨h9, H⟩ := H
   refine GoQ.pure rfl (op_index Try.underlying23 ti3 rfl rfl h8 h9 (h_a.some_ h8 h9)) rfl rfl ?_
   refine GoQ.stable rfl (ldInt h_a h8 h9 Try.underlying3 rfl rfl) rfl rfl ?_
   refine GoQ.pure rfl (op_move rfl) rfl rfl ?_
   refine GoQ.pure rfl (op_move rfl) rfl rfl ?_
   obtain ⟨h10, H⟩ := H
   obtain ⟨h11, H⟩ := H
   refine GoQ.pure rfl (op_index Try.underlying23 ti3 rfl rfl h10 h11 (h_b.some_ h10 h11)) rfl rfl ?_
   refine GoQ.stable rfl (ldInt h_b h10 h11 Try.underlying3 rfl rfl) rfl rfl ?_
   by_cases h12 : (ix a (k1_3 : Int)) = (ix b (k1_3 : Int))
   ·replace H := ifp h12 H
    refine GoQ.pure rfl (fun w => opB (op_neq rfl rfl w) (ndT h12)) rfl rfl ?_
    refine GoQ.nil ?_
    refine Go1.condF rfl rfl ?_
    refine Go1.skip ?_
    refine Go1.inBlock ?_
    refine Go1.region ?_
    refine GoR.op ((op_add rfl rfl (wrap_i64 (natbd h4 h_a.bd))) _) rfl rfl ?_
    refine GoR.op ((op_move rfl) _) rfl rfl ?_
    refine GoR.nil ?_
    exact hX1 _ H _ _ ⟨⟨rfl, rfl, rfl, rfl, trivial⟩, hO, h_a, h_b, hB⟩
   ·replace H := ifn h12 H
    refine GoQ.pure rfl (fun w => opB (op_neq rfl rfl w) (ndF h12)) rfl rfl ?_
    refine GoQ.nil ?_
    refine Go1.condT rfl rfl ?_
    refine Go1.seq ?_
    refine Go1.region ?_
    refine GoR.op ((op_assign rfl) _) rfl rfl ?_
    refine GoR.nil ?_
    refine Go1.ret1 Try.func40 rfl ?_
    exact ⟨false, rfl, hB.same, H⟩
  ·replace H := ifn h4 H
   refine GoR.op ((fun w => opB (op_lss rfl rfl w) (decide_eq_false h4)) _) rfl rfl ?_
   refine GoR.nil ?_
   refine Go1.seq ?_
   refine Go1.condF rfl rfl ?_
   refine Go1.exit rfl ?_
   refine Go1.seq ?_
   refine Go1.region ?_
   refine GoR.op ((op_assign rfl) _) rfl rfl ?_
   refine GoR.nil ?_
   refine Go1.ret1 Try.func40 rfl ?_
   exact ⟨true, rfl, hB.same, H⟩
 ·replace H := ifn h1 H
  refine GoR.op ((fun w => opB (op_neq rfl rfl w) (ndF h1)) _) rfl rfl ?_
  refine GoR.nil ?_
  refine Go1.condT rfl rfl ?_
  refine Go1.seq ?_
  refine Go1.region ?_
  refine GoR.op ((op_assign rfl) _) rfl rfl ?_
  refine GoR.nil ?_
  refine Go1.ret1 Try.func40 rfl ?_
  exact ⟨false, rfl, hB.same, H⟩
theorem body47 : Body Try.prog 47 := ⟨Try.f47, Try.func47, rfl, by kernel_rfl⟩
theorem walk_ref03_SameRows {A : List Nat} {w0 : World} {p_a : Option Addr} {c_a : Nat} {p_b : Option Addr} {c_b : Nat} {a : List (List Int)} {b : List (List Int)} (hA : ∀ b ∈ A, b < w0.heap.size) (h_a : ISl (Rp.sl (Rp.int .i64)) A w0 p_a c_a a) (h_b : ISl (Rp.sl (Rp.int .i64)) A w0 p_b c_b b) {K : Bool → Prop} (H : ref03_SameRows a b K) :
    CallsV Try.prog 47 #[.slice p_a a.length c_a, .slice p_b b.length c_b] w0 (fun v w' => ∃ (r0 : Bool), v = .bool r0 ∧ Same w0 w' ∧ K r0) := by
 refine CallsV.of (l := [.slice p_a a.length c_a, .slice p_b b.length c_b]) Try.func47 rfl Try.ntmps47 rfl ?_
 have hO := Owns.start hA
 have hB := Fr.refl (bl []) w0
 unfold ref03_SameRows at H
 replace h_a := h_a.ch (Ch.start A w0)
 replace h_b := h_b.ch (Ch.start A w0)
 refine Go1.seq ?_
 refine Go1.region ?_
 refine GoR.op ((op_assign rfl) _) rfl rfl ?_
 refine GoR.nil ?_
 refine Go1.seq ?_
 refine Go1.seq ?_
 refine Go1.region ?_
 refine GoR.op ((op_move rfl) _) rfl rfl ?_
 refine GoR.op ((op_len Try.underlying22 rfl) _) rfl rfl ?_
 replace H := H h_a.bd
 refine GoR.op ((op_move rfl) _) rfl rfl ?_
 refine GoR.op ((op_len Try.underlying22 rfl) _) rfl rfl ?_
 replace H := H h_b.bd
 by_cases h1 : (a.length : Int) = (b.length : Int)
 ·replace H := ifp h1 H
  refine GoR.op ((fun w => opB (op_neq rfl rfl w) (ndT h1)) _) rfl rfl ?_
  refine GoR.nil ?_
  refine Go1.condF rfl rfl ?_
  refine Go1.skip ?_
  refine Go1.seq ?_
  refine Go1.seq ?_
  refine Go1.region ?_
  refine GoR.op ((op_move rfl) _) rfl rfl ?_
  refine GoR.op ((op_len Try.underlying22 rfl) _) rfl rfl ?_
  refine GoR.op ((op_move rfl) _) rfl rfl ?_
  refine GoR.nil ?_
  refine Go1.block ?_
  refine Go1.loopW (S := Nat) (fun s σ w => agrees σ [(0, .slice p_a a.length c_a), (1, .slice p_b b.length c_b), (12, .int .i64 (a.length : Int)), (13, .int .i64 (s : Int))] ∧ Owns w0.heap.size w [] A ∧ ISl (Rp.sl (Rp.int .i64)) (bl [] ++ A) w p_a c_a a ∧ ISl (Rp.sl (Rp.int .i64)) (bl [] ++ A) w p_b c_b b ∧ Fr (bl []) w0 (bl []) w) H ⟨⟨rfl, rfl, rfl, rfl, trivial⟩, hO, h_a, h_b, hB⟩ ?_
  rintro X1 k1_3 H hX1 σ w2 ⟨hag, hO, h_a, h_b, hB⟩
  refine Go1.keep [(0, .slice p_a a.length c_a), (1, .slice p_b b.length c_b), (12, .int .i64 (a.length : Int)), (13, .int .i64 (k1_3 : Int))] hag ?_
  refine Go1.seq ?_
  refine Go1.region ?_
  by_cases h4 : (k1_3 : Int) < (a.length : Int)
  ·replace H := ifp h4 H
   refine GoR.op ((fun w => opB (op_lss rfl rfl w) (decide_eq_true h4)) _) rfl rfl ?_
   refine GoR.nil ?_
   refine Go1.seq ?_
   refine Go1.condT rfl rfl ?_
   refine Go1.skip ?_
   refine Go1.seq ?_
   refine Go1.block ?_
   refine Go1.seq ?_
   refine Go1.region ?_
   refine GoR.op ((op_move rfl) _) rfl rfl ?_
   refine GoR.op ((op_assign rfl) _) rfl rfl ?_
   refine GoR.nil ?_
   refine Go1.seq ?_
   refine Go1.drawS 0 [(0, .pure), (1, .pure), (2, .pure), (3, .stable), (4, .pure), (5, .pure), (6, .pure), (7, .stable), (8, .loud), (9, .pure)] mixed (by kernel_rfl) ?_
   intro w5 hs6
   have hst7 := Stp.same hO hs6
   replace hO := hst7.own
   replace h_a := h_a.ch hst7.ch
   replace h_b := h_b.ch hst7.ch
   replace hB := hB.trans hst7.fr
   refine GoQ.pure rfl (op_move rfl) rfl rfl ?_
   refine GoQ.pure rfl (op_move rfl) rfl rfl ?_
   obtain ⟨h8, H⟩ := H
   obtain ⟨h9, H⟩ := H
   refine GoQ.pure rfl (op_index Try.underlying22 ti23 rfl rfl h8 h9 (h_a.some_ h8 h9)) rfl rfl ?_
   have hobt := ldSl h_a h8 h9
   obtain ⟨p10, c11, hi12, hl13⟩ := hobt
   refine GoQ.stable rfl (hl13 Try.underlying23 rfl rfl) rfl rfl ?_
   refine GoQ.pure rfl (op_move rfl) rfl rfl ?_
   refine GoQ.pure rfl (op_move rfl) rfl rfl ?_
   obtain ⟨h14, H⟩ := H
   obtain ⟨h15, H⟩ := H
   refine GoQ.pure rfl (op_index Try.underlying22 ti23 rfl rfl h14 h15 (h_b.some_ h14 h15)) rfl rfl ?_
   have hobt := ldSl h_b h14 h15
   obtain ⟨p16, c17, hi18, hl19⟩ := hobt
   refine GoQ.stable rfl (hl19 Try.underlying23 rfl rfl) rfl rfl ?_
   refine GoQ.call rfl (op_call body40 rfl (walk_ref03_Same hO.lt hi12 hi18 H)) (fun v w hr => by obtain ⟨_, _, hs, _⟩ := hr; assumption) rfl rfl ?_
   rintro v24 w21 ⟨r20, rfl, hs22, H⟩
   have hst25 := Stp.same hO hs22
   replace hO := hst25.own
   replace h_a := h_a.ch hst25.ch
   replace h_b := h_b.ch hst25.ch
   replace hi12 := hi12.ch hst25.ch
   replace hi18 := hi18.ch hst25.ch
   replace hB := hB.trans hst25.fr
   cases r20
   ·replace H := ifn Bool.false_ne_true H
    refine GoQ.pure rfl (op_not rfl) rfl rfl ?_
    refine GoQ.nil ?_
    refine Go1.condT rfl rfl ?_
    refine Go1.seq ?_
    refine Go1.region ?_
    refine GoR.op ((op_assign rfl) _) rfl rfl ?_
    refine GoR.nil ?_
    refine Go1.ret1 Try.func47 rfl ?_
    exact ⟨false, rfl, hB.same, H⟩
   ·replace H := ifp rfl H
    refine GoQ.pure rfl (op_not rfl) rfl rfl ?_
    refine GoQ.nil ?_
    refine Go1.condF rfl rfl ?_
    refine Go1.skip ?_
    refine Go1.inBlock ?_
    refine Go1.region ?_
    refine GoR.op ((op_add rfl rfl (wrap_i64 (natbd h4 h_a.bd))) _) rfl rfl ?_
    refine GoR.op ((op_move rfl) _) rfl rfl ?_
    refine GoR.nil ?_
    exact hX1 _ H _ _ ⟨⟨rfl, rfl, rfl, rfl, trivial⟩, hO, h_a, h_b, hB⟩
  ·replace H := ifn h4 H
   refine GoR.op ((fun w => opB (op_lss rfl rfl w) (decide_eq_false h4)) _) rfl rfl ?_
   refine GoR.nil ?_
   refine Go1.seq ?_
   refine Go1.condF rfl rfl ?_
   refine Go1.exit rfl ?_
   refine Go1.seq ?_
   refine Go1.region ?_
   refine GoR.op ((op_assign rfl) _) rfl rfl ?_
   refine GoR.nil ?_
   refine Go1.ret1 Try.func47 rfl ?_
   exact ⟨true, rfl, hB.same, H⟩
 ·replace H := ifn h1 H
  refine GoR.op ((fun w => opB (op_neq rfl rfl w) (ndF h1)) _) rfl rfl ?_
  refine GoR.nil ?_
  refine Go1.condT rfl rfl ?_
  refine Go1.seq ?_
  refine Go1.region ?_
  refine GoR.op ((op_assign rfl) _) rfl rfl ?_
  refine GoR.nil ?_
  refine Go1.ret1 Try.func47 rfl ?_
  exact ⟨false, rfl, hB.same, H⟩
theorem body26 : Body Try.prog 26 := ⟨Try.f26, Try.func26, rfl, by kernel_rfl⟩
theorem walk_ref14_Valid {A : List Nat} {w0 : World} {p_t : Option Addr} {c_t : Nat} {t : List (List Int)} (hA : ∀ b ∈ A, b < w0.heap.size) (h_t : ISl (Rp.sl (Rp.int .i64)) A w0 p_t c_t t) {K : Bool → Prop} (H : ref14_Valid t K) :
    CallsV Try.prog 26 #[.slice p_t t.length c_t] w0 (fun v w' => ∃ (r0 : Bool), v = .bool r0 ∧ Same w0 w' ∧ K r0) := by
 refine CallsV.of (l := [.slice p_t t.length c_t]) Try.func26 rfl Try.ntmps26 rfl ?_
 have hO := Owns.start hA
 have hB := Fr.refl (bl []) w0
 unfold ref14_Valid at H
 replace h_t := h_t.ch (Ch.start A w0)
 refine Go1.seq ?_
 refine Go1.region ?_
 refine GoR.op ((op_assign rfl) _) rfl rfl ?_
 refine GoR.nil ?_
 refine Go1.seq ?_
 refine Go1.region ?_
 refine GoR.op ((op_move rfl) _) rfl rfl ?_
 refine GoR.call (op_call body69 rfl (walk_ref14_Validate hO.lt h_t H)) rfl rfl ?_
 rintro v5 w2 ⟨r1, rfl, hs3, H⟩
 have hst6 := Stp.same hO hs3
 replace hO := hst6.own
 replace h_t := h_t.ch hst6.ch
 replace hB := hB.trans hst6.fr
 by_cases h7 : r1 = (0 : Int)
 ·replace H := ifp h7 H
  refine GoR.op ((fun w => opB (op_eql rfl rfl w) (decide_eq_true h7)) _) rfl rfl ?_
  refine GoR.op ((op_assign rfl) _) rfl rfl ?_
  refine GoR.nil ?_
  refine Go1.ret1 Try.func26 rfl ?_
  exact ⟨true, rfl, hB.same, H⟩
 ·replace H := ifn h7 H
  refine GoR.op ((fun w => opB (op_eql rfl rfl w) (decide_eq_false h7)) _) rfl rfl ?_
  refine GoR.op ((op_assign rfl) _) rfl rfl ?_
  refine GoR.nil ?_
  refine Go1.ret1 Try.func26 rfl ?_
  exact ⟨false, rfl, hB.same, H⟩
theorem body20 : Body Try.prog 20 := ⟨Try.f20, Try.func20, rfl, by kernel_rfl⟩
theorem walk_ref14_In {A : List Nat} {w0 : World} {p_t : Option Addr} {c_t : Nat} {p_l : Option Addr} {c_l : Nat} {t : List (List Int)} {l : List Int} (hA : ∀ b ∈ A, b < w0.heap.size) (h_t : ISl (Rp.sl (Rp.int .i64)) A w0 p_t c_t t) (h_l : ISl (Rp.int .i64) A w0 p_l c_l l) {K : Bool → Prop} (H : ref14_In t l K) :
    CallsV Try.prog 20 #[.slice p_t t.length c_t, .slice p_l l.length c_l] w0 (fun v w' => ∃ (r0 : Bool), v = .bool r0 ∧ Same w0 w' ∧ K r0) := by
 refine CallsV.of (l := [.slice p_t t.length c_t, .slice p_l l.length c_l]) Try.func20 rfl Try.ntmps20 rfl ?_
 have hO := Owns.start hA
 have hB := Fr.refl (bl []) w0
 unfold ref14_In at H
 replace h_t := h_t.ch (Ch.start A w0)
 replace h_l := h_l.ch (Ch.start A w0)
 refine Go1.seq ?_
 refine Go1.region ?_
 refine GoR.op ((op_assign rfl) _) rfl rfl ?_
 refine GoR.nil ?_
 refine Go1.seq ?_
 refine Go1.seq ?_
 refine Go1.region ?_
 refine GoR.op ((op_move rfl) _) rfl rfl ?_
 refine GoR.op ((op_len Try.underlying23 rfl) _) rfl rfl ?_
 replace H := H h_l.bd
 refine GoR.op ((op_move rfl) _) rfl rfl ?_
 refine GoR.nil ?_
 refine Go1.block ?_
 refine Go1.loopW (S := Nat) (fun s σ w => agrees σ [(0, .slice p_t t.length c_t), (7, .slice p_l l.length c_l), (8, .int .i64 (l.length : Int)), (9, .int .i64 (s : Int))] ∧ Owns w0.heap.size w [] A ∧ ISl (Rp.sl (Rp.int .i64)) (bl [] ++ A) w p_t c_t t ∧ ISl (Rp.int .i64) (bl [] ++ A) w p_l c_l l ∧ Fr (bl []) w0 (bl []) w) H ⟨⟨rfl, rfl, rfl, rfl, trivial⟩, hO, h_t, h_l, hB⟩ ?_
 rintro X1 k1_2 H hX1 σ w1 ⟨hag, hO, h_t, h_l, hB⟩
 refine Go1.keep [(0, .slice p_t t.length c_t), (7, .slice p_l l.length c_l), (8, .int .i64 (l.length : Int)), (9, .int .i64 (k1_2 : Int))] hag ?_
 refine Go1.seq ?_
 refine Go1.region ?_
 by_cases h3 : (k1_2 : Int) < (l.length : Int)
 ·replace H := ifp h3 H
  refine GoR.op ((fun w => opB (op_lss rfl rfl w) (decide_eq_true h3)) _) rfl rfl ?_
  refine GoR.nil ?_
  refine Go1.seq ?_
  refine Go1.condT rfl rfl ?_
  refine Go1.skip ?_
  refine Go1.seq ?_
  refine Go1.block ?_
  refine Go1.seq ?_
  refine Go1.region ?_
  obtain ⟨h4, H⟩ := H
  obtain ⟨h5, H⟩ := H
  refine GoR.op ((op_index Try.underlying23 ti3 rfl rfl h4 h5 (h_l.some_ h4 h5)) _) rfl rfl ?_
  refine GoR.op ((ldInt h_l h4 h5 Try.underlying3 rfl rfl) _ (Same.refl _)) rfl rfl ?_
  refine GoR.op ((op_assign rfl) _) rfl rfl ?_
  refine GoR.nil ?_
  refine Go1.seq ?_
  refine Go1.region ?_
  refine GoR.op ((op_move rfl) _) rfl rfl ?_
  by_cases h6 : (ix l (k1_2 : Int)) < (0 : Int)
  ·replace H := ifp h6 H
   refine GoR.op ((fun w => opB (op_lss rfl rfl w) (decide_eq_true h6)) _) rfl rfl ?_
   refine GoR.op ((op_move rfl) _) rfl rfl ?_
   refine GoR.pass rfl rfl ?_
   refine GoR.pass rfl rfl ?_
   refine GoR.pass rfl rfl ?_
   refine GoR.pass rfl rfl ?_
   refine GoR.op ((op_pickT rfl rfl rfl) _) rfl rfl ?_
   refine GoR.nil ?_
   refine Go1.condT rfl rfl ?_
   refine Go1.seq ?_
   refine Go1.region ?_
   refine GoR.op ((op_assign rfl) _) rfl rfl ?_
   refine GoR.nil ?_
   refine Go1.ret1 Try.func20 rfl ?_
   exact ⟨false, rfl, hB.same, H⟩
  ·replace H := ifn h6 H
   refine GoR.op ((fun w => opB (op_lss rfl rfl w) (decide_eq_false h6)) _) rfl rfl ?_
   refine GoR.op ((op_move rfl) _) rfl rfl ?_
   refine GoR.op ((op_move rfl) _) rfl rfl ?_
   refine GoR.op ((op_move rfl) _) rfl rfl ?_
   refine GoR.op ((op_len Try.underlying22 rfl) _) rfl rfl ?_
   replace H := H h_t.bd
   by_cases h7 : (t.length : Int) ≤ (ix l (k1_2 : Int))
   ·replace H := ifp h7 H
    refine GoR.op ((fun w => opB (op_geq rfl rfl w) (decide_eq_true h7)) _) rfl rfl ?_
    refine GoR.op ((op_pickF rfl rfl rfl) _) rfl rfl ?_
    refine GoR.nil ?_
    refine Go1.condT rfl rfl ?_
    refine Go1.seq ?_
    refine Go1.region ?_
    refine GoR.op ((op_assign rfl) _) rfl rfl ?_
    refine GoR.nil ?_
    refine Go1.ret1 Try.func20 rfl ?_
    exact ⟨false, rfl, hB.same, H⟩
   ·replace H := ifn h7 H
    refine GoR.op ((fun w => opB (op_geq rfl rfl w) (decide_eq_false h7)) _) rfl rfl ?_
    refine GoR.op ((op_pickF rfl rfl rfl) _) rfl rfl ?_
    refine GoR.nil ?_
    refine Go1.condF rfl rfl ?_
    refine Go1.skip ?_
    refine Go1.inBlock ?_
    refine Go1.region ?_
    refine GoR.op ((op_add rfl rfl (wrap_i64 (natbd h3 h_l.bd))) _) rfl rfl ?_
    refine GoR.op ((op_move rfl) _) rfl rfl ?_
    refine GoR.nil ?_
    exact hX1 _ H _ _ ⟨⟨rfl, rfl, rfl, rfl, trivial⟩, hO, h_t, h_l, hB⟩
 ·replace H := ifn h3 H
  refine GoR.op ((fun w => opB (op_lss rfl rfl w) (decide_eq_false h3)) _) rfl rfl ?_
  refine GoR.nil ?_
  refine Go1.seq ?_
  refine Go1.condF rfl rfl ?_
  refine Go1.exit rfl ?_
  refine Go1.seq ?_
  refine Go1.region ?_
  refine GoR.op ((op_assign rfl) _) rfl rfl ?_
  refine GoR.nil ?_
  refine Go1.ret1 Try.func20 rfl ?_
  exact ⟨true, rfl, hB.same, H⟩
theorem body61 : Body Try.prog 61 := ⟨Try.f61, Try.func61, rfl, by kernel_rfl⟩
theorem walk_ref03_Set {A : List Nat} {w0 : World} {p_l : Option Addr} {c_l : Nat} {l : List Int} {n : Int} (hA : ∀ b ∈ A, b < w0.heap.size) (h_l : ISl (Rp.int .i64) A w0 p_l c_l l) {K : List Bool → Prop} (H : ref03_Set l n K) :
    CallsV Try.prog 61 #[.slice p_l l.length c_l, .int .i64 n] w0 (fun v w' => ∃ (r0 : List Bool), ∃ (n_r0 : Nat), ∃ (p_r0 : Option Addr), ∃ (c_r0 : Nat), ∃ (vs_r0 : List Value), v = .slice p_r0 n_r0 c_r0 ∧ Same w0 w' ∧ Owns w0.heap.size w' [.row 4 1 p_r0 n_r0 c_r0 vs_r0] A ∧ Els (Rp.bool) (bl [.row 4 1 p_r0 n_r0 c_r0 vs_r0] ++ A) w' vs_r0 r0 ∧ K r0) := by
 refine CallsV.of (l := [.slice p_l l.length c_l, .int .i64 n]) Try.func61 rfl Try.ntmps61 rfl ?_
 have hO := Owns.start hA
 have hB := Fr.refl (bl []) w0
 unfold ref03_Set at H
 replace h_l := h_l.ch (Ch.start A w0)
 refine Go1.seq ?_
 refine Go1.region ?_
 refine GoR.op ((op_assign rfl) _) rfl rfl ?_
 refine GoR.nil ?_
 refine Go1.seq ?_
 refine Go1.region ?_
 refine GoR.op ((op_move rfl) _) rfl rfl ?_
 obtain ⟨h8, H⟩ := H
 obtain ⟨h9, H⟩ := H
 have hobt := omake (n := n) (r := Rp.bool) (d := false) Try.underlying54 ti4 (fun _ _ => rfl) rfl hO h8 h9 (by decide)
 obtain ⟨w1, p2, vs3, hst4, hE5, hs6, hop7⟩ := hobt
 refine GoR.op (hop7 rfl rfl) rfl rfl ?_
 replace hO := hst4.own
 replace h_l := h_l.ch hst4.ch
 replace hB := hB.trans hst4.fr
 refine GoR.op ((op_assign rfl) _) rfl rfl ?_
 refine GoR.nil ?_
 refine Go1.seq ?_
 refine Go1.seq ?_
 refine Go1.region ?_
 refine GoR.op ((op_move rfl) _) rfl rfl ?_
 refine GoR.op ((op_len Try.underlying23 rfl) _) rfl rfl ?_
 replace H := H h_l.bd
 refine GoR.op ((op_move rfl) _) rfl rfl ?_
 refine GoR.nil ?_
 refine Go1.block ?_
 refine Go1.loopW (S := Nat × List Bool) (fun s σ w => ∃ (vs14 : List Value), agrees σ [(1, .int .i64 n), (5, .slice p2 n.toNat n.toNat), (10, .slice p_l l.length c_l), (11, .int .i64 (l.length : Int)), (12, .int .i64 ((s.1) : Int))] ∧ Owns w0.heap.size w [.row 4 1 p2 n.toNat n.toNat vs14] A ∧ Els (Rp.bool) (bl [.row 4 1 p2 n.toNat n.toNat vs14] ++ A) w vs14 (s.2) ∧ ISl (Rp.int .i64) (bl [.row 4 1 p2 n.toNat n.toNat vs14] ++ A) w p_l c_l l ∧ Fr (bl []) w0 (bl [.row 4 1 p2 n.toNat n.toNat vs14]) w) H ⟨vs3, ⟨rfl, rfl, rfl, rfl, rfl, trivial⟩, hO, hE5, h_l, hB⟩ ?_
 rintro X1 ⟨k1_12, out1_13⟩ H hX1 σ w11 ⟨vs14, hag, hO, hE15, h_l, hB⟩
 dsimp only at H
 refine Go1.keep [(1, .int .i64 n), (5, .slice p2 n.toNat n.toNat), (10, .slice p_l l.length c_l), (11, .int .i64 (l.length : Int)), (12, .int .i64 (k1_12 : Int))] hag ?_
 refine Go1.seq ?_
 refine Go1.region ?_
 by_cases h16 : (k1_12 : Int) < (l.length : Int)
 ·replace H := ifp h16 H
  refine GoR.op ((fun w => opB (op_lss rfl rfl w) (decide_eq_true h16)) _) rfl rfl ?_
  refine GoR.nil ?_
  refine Go1.seq ?_
  refine Go1.condT rfl rfl ?_
  refine Go1.skip ?_
  refine Go1.seq ?_
  refine Go1.block ?_
  refine Go1.seq ?_
  refine Go1.region ?_
  obtain ⟨h17, H⟩ := H
  obtain ⟨h18, H⟩ := H
  refine GoR.op ((op_index Try.underlying23 ti3 rfl rfl h17 h18 (h_l.some_ h17 h18)) _) rfl rfl ?_
  refine GoR.op ((ldInt h_l h17 h18 Try.underlying3 rfl rfl) _ (Same.refl _)) rfl rfl ?_
  refine GoR.op ((op_assign rfl) _) rfl rfl ?_
  refine GoR.nil ?_
  refine Go1.seq ?_
  refine Go1.region ?_
  refine GoR.op ((op_move rfl) _) rfl rfl ?_
  by_cases h19 : (0 : Int) ≤ (ix l (k1_12 : Int))
  ·replace H := ifp h19 H
   refine GoR.op ((fun w => opB (op_geq rfl rfl w) (decide_eq_true h19)) _) rfl rfl ?_
   refine GoR.op ((op_move rfl) _) rfl rfl ?_
   refine GoR.op ((op_move rfl) _) rfl rfl ?_
   refine GoR.op ((op_move rfl) _) rfl rfl ?_
   by_cases h20 : (ix l (k1_12 : Int)) < n
   ·replace H := ifp h20 H
    refine GoR.op ((fun w => opB (op_lss rfl rfl w) (decide_eq_true h20)) _) rfl rfl ?_
    refine GoR.op ((op_pickT rfl rfl rfl) _) rfl rfl ?_
    refine GoR.nil ?_
    refine Go1.condT rfl rfl ?_
    refine Go1.region ?_
    refine GoR.op ((op_move rfl) _) rfl rfl ?_
    refine GoR.op ((op_move rfl) _) rfl rfl ?_
    obtain ⟨h21, H⟩ := H
    obtain ⟨h22, H⟩ := H
    refine GoR.op ((op_index Try.underlying54 ti4 rfl rfl h21 (ltn (hE15.neq hO 0 rfl) h22) (hE15.psome hO 0 rfl h21 h22)) _) rfl rfl ?_
    have hobt := ost (r := Rp.bool) rfl 0 hO rfl hE15 h21 h22 (v := .bool true) (u := true) rfl rfl
    obtain ⟨w23, vs24, hst25, hE26, hop27⟩ := hobt
    refine GoR.op (hop27 Try.underlying4 rfl ti4 rfl rfl) rfl rfl ?_
    replace hO := hst25.own
    replace h_l := h_l.ch hst25.ch
    replace hB := hB.trans hst25.fr
    refine GoR.nil ?_
    refine Go1.inBlock ?_
    refine Go1.region ?_
    refine GoR.op ((op_add rfl rfl (wrap_i64 (natbd h16 h_l.bd))) _) rfl rfl ?_
    refine GoR.op ((op_move rfl) _) rfl rfl ?_
    refine GoR.nil ?_
    exact hX1 _ H _ _ ⟨vs24, ⟨rfl, rfl, rfl, rfl, rfl, trivial⟩, hO, hE26, h_l, hB⟩
   ·replace H := ifn h20 H
    refine GoR.op ((fun w => opB (op_lss rfl rfl w) (decide_eq_false h20)) _) rfl rfl ?_
    refine GoR.op ((op_pickT rfl rfl rfl) _) rfl rfl ?_
    refine GoR.nil ?_
    refine Go1.condF rfl rfl ?_
    refine Go1.skip ?_
    refine Go1.inBlock ?_
    refine Go1.region ?_
    refine GoR.op ((op_add rfl rfl (wrap_i64 (natbd h16 h_l.bd))) _) rfl rfl ?_
    refine GoR.op ((op_move rfl) _) rfl rfl ?_
    refine GoR.nil ?_
    exact hX1 _ H _ _ ⟨vs14, ⟨rfl, rfl, rfl, rfl, rfl, trivial⟩, hO, hE15, h_l, hB⟩
  ·replace H := ifn h19 H
   refine GoR.op ((fun w => opB (op_geq rfl rfl w) (decide_eq_false h19)) _) rfl rfl ?_
   refine GoR.op ((op_move rfl) _) rfl rfl ?_
   refine GoR.pass rfl rfl ?_
   refine GoR.pass rfl rfl ?_
   refine GoR.pass rfl rfl ?_
   refine GoR.op ((op_pickF rfl rfl rfl) _) rfl rfl ?_
   refine GoR.nil ?_
   refine Go1.condF rfl rfl ?_
   refine Go1.skip ?_
   refine Go1.inBlock ?_
   refine Go1.region ?_
   refine GoR.op ((op_add rfl rfl (wrap_i64 (natbd h16 h_l.bd))) _) rfl rfl ?_
   refine GoR.op ((op_move rfl) _) rfl rfl ?_
   refine GoR.nil ?_
   exact hX1 _ H _ _ ⟨vs14, ⟨rfl, rfl, rfl, rfl, rfl, trivial⟩, hO, hE15, h_l, hB⟩
 ·replace H := ifn h16 H
  refine GoR.op ((fun w => opB (op_lss rfl rfl w) (decide_eq_false h16)) _) rfl rfl ?_
  refine GoR.nil ?_
  refine Go1.seq ?_
  refine Go1.condF rfl rfl ?_
  refine Go1.exit rfl ?_
  refine Go1.seq ?_
  refine Go1.region ?_
  refine GoR.op ((op_move rfl) _) rfl rfl ?_
  refine GoR.op ((op_assign rfl) _) rfl rfl ?_
  refine GoR.nil ?_
  refine Go1.ret1 Try.func61 rfl ?_
  exact ⟨out1_13, n.toNat, p2, n.toNat, vs14, rfl, hB.same, hO, hE15, H⟩
theorem body65 : Body Try.prog 65 := ⟨Try.f65, Try.func65, rfl, by kernel_rfl⟩
theorem walk_ref03_Members {A : List Nat} {w0 : World} {p_set_ : Option Addr} {c_set_ : Nat} {set_ : List Bool} (hA : ∀ b ∈ A, b < w0.heap.size) (h_set_ : ISl (Rp.bool) A w0 p_set_ c_set_ set_) {K : List Int → Prop} (H : ref03_Members set_ K) :
    CallsV Try.prog 65 #[.slice p_set_ set_.length c_set_] w0 (fun v w' => ∃ (r0 : List Int), ∃ (n_r0 : Nat), ∃ (p_r0 : Option Addr), ∃ (c_r0 : Nat), ∃ (vs_r0 : List Value), v = .slice p_r0 n_r0 c_r0 ∧ Same w0 w' ∧ Owns w0.heap.size w' [.row 3 1 p_r0 n_r0 c_r0 vs_r0] A ∧ Els (Rp.int .i64) (bl [.row 3 1 p_r0 n_r0 c_r0 vs_r0] ++ A) w' vs_r0 r0 ∧ K r0) := by
 refine CallsV.of (l := [.slice p_set_ set_.length c_set_]) Try.func65 rfl Try.ntmps65 rfl ?_
 have hO := Owns.start hA
 have hB := Fr.refl (bl []) w0
 unfold ref03_Members at H
 replace h_set_ := h_set_.ch (Ch.start A w0)
 refine Go1.seq ?_
 refine Go1.region ?_
 refine GoR.op ((op_assign rfl) _) rfl rfl ?_
 refine GoR.nil ?_
 refine Go1.seq ?_
 refine Go1.region ?_
 refine GoR.op ((op_assign rfl) _) rfl rfl ?_
 refine GoR.nil ?_
 refine Go1.seq ?_
 refine Go1.seq ?_
 refine Go1.region ?_
 refine GoR.op ((op_move rfl) _) rfl rfl ?_
 refine GoR.op ((op_len Try.underlying54 rfl) _) rfl rfl ?_
 replace H := H h_set_.bd
 refine GoR.op ((op_move rfl) _) rfl rfl ?_
 refine GoR.nil ?_
 refine Go1.block ?_
 have hst2 := Stp.nil (e := 3) (r := 1) hO
 replace hO := hst2.own
 replace h_set_ := h_set_.ch hst2.ch
 replace hB := hB.trans hst2.fr
 have hE3 := Els.nil (Rp.int .i64) (bl (.row 3 1 none 0 0 [] :: []) ++ A) w0
 refine Go1.loopW (S := Nat × List Int) (fun s σ w => ∃ (n11 : Nat), ∃ (p9 : Option Addr), ∃ (c10 : Nat), ∃ (vs7 : List Value), agrees σ [(3, .slice p9 n11 c10), (6, .slice p_set_ set_.length c_set_), (7, .int .i64 (set_.length : Int)), (8, .int .i64 ((s.1) : Int))] ∧ Owns w0.heap.size w [.row 3 1 p9 n11 c10 vs7] A ∧ Els (Rp.int .i64) (bl [.row 3 1 p9 n11 c10 vs7] ++ A) w vs7 (s.2) ∧ ISl (Rp.bool) (bl [.row 3 1 p9 n11 c10 vs7] ++ A) w p_set_ c_set_ set_ ∧ Fr (bl []) w0 (bl [.row 3 1 p9 n11 c10 vs7]) w) H ⟨0, none, 0, [], ⟨rfl, rfl, rfl, rfl, trivial⟩, hO, hE3, h_set_, hB⟩ ?_
 rintro X1 ⟨k1_5, l1_6⟩ H hX1 σ w4 ⟨n11, p9, c10, vs7, hag, hO, hE8, h_set_, hB⟩
 dsimp only at H
 refine Go1.keep [(3, .slice p9 n11 c10), (6, .slice p_set_ set_.length c_set_), (7, .int .i64 (set_.length : Int)), (8, .int .i64 (k1_5 : Int))] hag ?_
 refine Go1.seq ?_
 refine Go1.region ?_
 by_cases h12 : (k1_5 : Int) < (set_.length : Int)
 ·replace H := ifp h12 H
  refine GoR.op ((fun w => opB (op_lss rfl rfl w) (decide_eq_true h12)) _) rfl rfl ?_
  refine GoR.nil ?_
  refine Go1.seq ?_
  refine Go1.condT rfl rfl ?_
  refine Go1.skip ?_
  refine Go1.seq ?_
  refine Go1.block ?_
  refine Go1.seq ?_
  refine Go1.region ?_
  refine GoR.op ((op_move rfl) _) rfl rfl ?_
  obtain ⟨h13, H⟩ := H
  obtain ⟨h14, H⟩ := H
  refine GoR.op ((op_index Try.underlying54 ti4 rfl rfl h13 h14 (h_set_.some_ h13 h14)) _) rfl rfl ?_
  by_cases h15 : ix set_ (k1_5 : Int) = true
  ·replace H := ifp h15 H
   refine GoR.op (opB ((ldBool h_set_ h13 h14 Try.underlying4 rfl rfl) _ (Same.refl _)) (h15)) rfl rfl ?_
   refine GoR.op ((op_assign rfl) _) rfl rfl ?_
   refine GoR.op ((op_assign rfl) _) rfl rfl ?_
   refine GoR.nil ?_
   refine Go1.seq ?_
   refine Go1.region ?_
   refine GoR.op ((op_move rfl) _) rfl rfl ?_
   refine GoR.nil ?_
   refine Go1.condT rfl rfl ?_
   refine Go1.region ?_
   refine GoR.op ((op_move rfl) _) rfl rfl ?_
   refine GoR.op ((op_move rfl) _) rfl rfl ?_
   have hobt := obuild (r := Rp.int .i64) (n := 1) (parts := [(0, .int .i64 (k1_5 : Int))]) (vs := [.int .i64 (k1_5 : Int)]) (xs := [(k1_5 : Int)]) rfl Try.underlying23 ti3 hO (by decide) (by kernel_rfl) (Els.cons rfl rfl (Els.nil _ _ _) (by simp [mx])) rfl
   obtain ⟨w16, p17, hst18, hE19, hs20, hop21⟩ := hobt
   refine GoR.op (hop21 rfl) rfl rfl ?_
   replace hE8 := hE8.ch hst18.ch
   replace hO := hst18.own
   replace h_set_ := h_set_.ch hst18.ch
   replace hB := hB.trans hst18.fr
   have hobt := freeze 0 hO rfl hE19
   obtain ⟨hO1, hc25, hi23, hn24⟩ := hobt
   replace h_set_ := h_set_.ch hc25
   replace hE8 := hE8.ch hc25
   replace hB := hB.trans (Owns.dropFr _ _ 0)
   replace hO := hO1; clear hO1
   obtain ⟨h26, H⟩ := H
   have hobt := oapp Try.underlying23 ti3 rfl 0 hO rfl hE8 hi23 hn24 h26 (by decide)
   obtain ⟨w27, p28, c29, vs30, hst31, hE32, hop33⟩ := hobt
   refine GoR.op (hop33 rfl rfl) rfl rfl ?_
   replace hO := hst31.own
   replace h_set_ := h_set_.ch hst31.ch
   replace hi23 := hi23.ch hst31.ch
   replace hB := hB.trans hst31.fr
   refine GoR.op ((op_assign rfl) _) rfl rfl ?_
   refine GoR.nil ?_
   refine Go1.inBlock ?_
   refine Go1.region ?_
   refine GoR.op ((op_add rfl rfl (wrap_i64 (natbd h12 h_set_.bd))) _) rfl rfl ?_
   refine GoR.op ((op_move rfl) _) rfl rfl ?_
   refine GoR.nil ?_
   exact hX1 _ H _ _ ⟨n11 + 1, p28, c29, vs30, ⟨rfl, rfl, rfl, rfl, trivial⟩, hO, hE32, h_set_, hB⟩
  ·replace H := ifn h15 H
   refine GoR.op (opB ((ldBool h_set_ h13 h14 Try.underlying4 rfl rfl) _ (Same.refl _)) (Bool.eq_false_iff.2 h15)) rfl rfl ?_
   refine GoR.op ((op_assign rfl) _) rfl rfl ?_
   refine GoR.op ((op_assign rfl) _) rfl rfl ?_
   refine GoR.nil ?_
   refine Go1.seq ?_
   refine Go1.region ?_
   refine GoR.op ((op_move rfl) _) rfl rfl ?_
   refine GoR.nil ?_
   refine Go1.condF rfl rfl ?_
   refine Go1.skip ?_
   refine Go1.inBlock ?_
   refine Go1.region ?_
   refine GoR.op ((op_add rfl rfl (wrap_i64 (natbd h12 h_set_.bd))) _) rfl rfl ?_
   refine GoR.op ((op_move rfl) _) rfl rfl ?_
   refine GoR.nil ?_
   exact hX1 _ H _ _ ⟨n11, p9, c10, vs7, ⟨rfl, rfl, rfl, rfl, trivial⟩, hO, hE8, h_set_, hB⟩
 ·replace H := ifn h12 H
  refine GoR.op ((fun w => opB (op_lss rfl rfl w) (decide_eq_false h12)) _) rfl rfl ?_
  refine GoR.nil ?_
  refine Go1.seq ?_
  refine Go1.condF rfl rfl ?_
  refine Go1.exit rfl ?_
  refine Go1.seq ?_
  refine Go1.region ?_
  refine GoR.op ((op_move rfl) _) rfl rfl ?_
  refine GoR.op ((op_assign rfl) _) rfl rfl ?_
  refine GoR.nil ?_
  refine Go1.ret1 Try.func65 rfl ?_
  exact ⟨l1_6, n11, p9, c10, vs7, rfl, hB.same, hO, hE8, H⟩
theorem body21 : Body Try.prog 21 := ⟨Try.f21, Try.func21, rfl, by kernel_rfl⟩
theorem walk_ref14_Generated {A : List Nat} {w0 : World} {p_t : Option Addr} {c_t : Nat} {p_gens : Option Addr} {c_gens : Nat} {t : List (List Int)} {gens : List Int} (hA : ∀ b ∈ A, b < w0.heap.size) (h_t : ISl (Rp.sl (Rp.int .i64)) A w0 p_t c_t t) (h_gens : ISl (Rp.int .i64) A w0 p_gens c_gens gens) {K : List Int → Prop} (H : ref14_Generated t gens K) :
    CallsV Try.prog 21 #[.slice p_t t.length c_t, .slice p_gens gens.length c_gens] w0 (fun v w' => ∃ (r0 : List Int), ∃ (n_r0 : Nat), ∃ (p_r0 : Option Addr), ∃ (c_r0 : Nat), ∃ (vs_r0 : List Value), v = .slice p_r0 n_r0 c_r0 ∧ Same w0 w' ∧ Owns w0.heap.size w' [.row 3 1 p_r0 n_r0 c_r0 vs_r0] A ∧ Els (Rp.int .i64) (bl [.row 3 1 p_r0 n_r0 c_r0 vs_r0] ++ A) w' vs_r0 r0 ∧ K r0) := by
 refine CallsV.of (l := [.slice p_t t.length c_t, .slice p_gens gens.length c_gens]) Try.func21 rfl Try.ntmps21 rfl ?_
 have hO := Owns.start hA
 have hB := Fr.refl (bl []) w0
 unfold ref14_Generated at H
 replace h_t := h_t.ch (Ch.start A w0)
 replace h_gens := h_gens.ch (Ch.start A w0)
 refine Go1.seq ?_
 refine Go1.region ?_
 refine GoR.op ((op_assign rfl) _) rfl rfl ?_
 refine GoR.nil ?_
 refine Go1.seq ?_
 refine Go1.region ?_
 refine GoR.op ((op_move rfl) _) rfl rfl ?_
 refine GoR.op ((op_move rfl) _) rfl rfl ?_
 refine GoR.op ((op_len Try.underlying22 rfl) _) rfl rfl ?_
 replace H := H h_t.bd
 refine GoR.call (op_call body61 rfl (walk_ref03_Set hO.lt h_gens H)) rfl rfl ?_
 rintro v6 w3 ⟨r1, n_r1, p_r1, c_r1, vs_r1, rfl, hs4, hN5, hE2, H⟩
 have hst7 := Stp.more hO hs4 hN5
 replace hO := hst7.own
 replace h_t := h_t.ch hst7.ch
 replace h_gens := h_gens.ch hst7.ch
 replace hB := hB.trans hst7.fr
 replace hE2 := hE2.ch (Ch.assoc _ _ _ _)
 refine GoR.op ((op_assign rfl) _) rfl rfl ?_
 refine GoR.nil ?_
 refine Go1.seq ?_
 refine Go1.seq ?_
 refine Go1.region ?_
 refine GoR.op ((op_assign rfl) _) rfl rfl ?_
 refine GoR.nil ?_
 refine Go1.block ?_
 refine Go1.loopW (S := Bool × List Bool) (fun s σ w => ∃ (vs12 : List Value), agrees σ [(0, .slice p_t t.length c_t), (5, .slice p_r1 n_r1 c_r1), (6, .bool (s.1))] ∧ Owns w0.heap.size w [.row 4 1 p_r1 n_r1 c_r1 vs12] A ∧ Els (Rp.bool) (bl [.row 4 1 p_r1 n_r1 c_r1 vs12] ++ A) w vs12 (s.2) ∧ ISl (Rp.sl (Rp.int .i64)) (bl [.row 4 1 p_r1 n_r1 c_r1 vs12] ++ A) w p_t c_t t ∧ Fr (bl []) w0 (bl [.row 4 1 p_r1 n_r1 c_r1 vs12]) w) H ⟨vs_r1, ⟨rfl, rfl, rfl, trivial⟩, hO, hE2, h_t, hB⟩ ?_
 rintro X1 ⟨changed1_10, in1_11⟩ H hX1 σ w9 ⟨vs12, hag, hO, hE13, h_t, hB⟩
 dsimp only at H
 refine Go1.keep [(0, .slice p_t t.length c_t), (5, .slice p_r1 n_r1 c_r1), (6, .bool changed1_10)] hag ?_
 refine Go1.seq ?_
 refine Go1.seq ?_
 refine Go1.region ?_
 refine GoR.op ((op_move rfl) _) rfl rfl ?_
 refine GoR.nil ?_
 cases changed1_10
 ·replace H := ifn Bool.false_ne_true H
  refine Go1.condF rfl rfl ?_
  refine Go1.exit rfl ?_
  refine Go1.seq ?_
  refine Go1.region ?_
  refine GoR.op ((op_move rfl) _) rfl rfl ?_
  have hobt := rowlend 0 hO rfl hE13
  obtain ⟨hl14, hn15⟩ := hobt
  have hOc16 := hO.drop 0
  refine GoR.call (op_call body65 (show ([.slice p_r1 n_r1 c_r1] : List Value) = [.slice p_r1 in1_11.length c_r1] from by rw [← hn15]) (walk_ref03_Members hOc16.lt hl14 H)) rfl rfl ?_
  rintro v22 w19 ⟨r17, n_r17, p_r17, c_r17, vs_r17, rfl, hs20, hN21, hE18, H⟩
  have hst23 := Stp.more hO hs20 hN21
  replace hE13 := hE13.ch hst23.ch
  replace hO := hst23.own
  replace h_t := h_t.ch hst23.ch
  replace hB := hB.trans hst23.fr
  replace hE18 := Els.flO hO (Fl.int .i64) hE18
  refine GoR.op ((op_assign rfl) _) rfl rfl ?_
  refine GoR.nil ?_
  replace h_t := h_t.ch (Owns.dropCh _ _ 1)
  replace hE18 := hE18.ch (Owns.dropCh _ _ 1)
  replace hB := hB.trans (Owns.dropFr _ _ 1)
  replace hO := hO.drop 1
  refine Go1.ret1 Try.func21 rfl ?_
  exact ⟨r17, n_r17, p_r17, c_r17, vs_r17, rfl, hB.same, hO, hE18, H⟩
 ·replace H := ifp rfl H
  refine Go1.condT rfl rfl ?_
  refine Go1.skip ?_
  refine Go1.block ?_
  refine Go1.seq ?_
  refine Go1.region ?_
  refine GoR.op ((op_assign rfl) _) rfl rfl ?_
  refine GoR.nil ?_
  refine Go1.seq ?_
  refine Go1.region ?_
  refine GoR.op ((op_move rfl) _) rfl rfl ?_
  refine GoR.op ((op_len Try.underlying22 rfl) _) rfl rfl ?_
  refine GoR.op ((op_move rfl) _) rfl rfl ?_
  refine GoR.nil ?_
  refine Go1.block ?_
  refine Go1.loopW (S := Bool × Nat × List Bool) (fun s σ w => ∃ (vs29 : List Value), agrees σ [(0, .slice p_t t.length c_t), (5, .slice p_r1 n_r1 c_r1), (6, .bool (s.1)), (15, .int .i64 (t.length : Int)), (16, .int .i64 ((s.2.1) : Int))] ∧ Owns w0.heap.size w [.row 4 1 p_r1 n_r1 c_r1 vs29] A ∧ Els (Rp.bool) (bl [.row 4 1 p_r1 n_r1 c_r1 vs29] ++ A) w vs29 (s.2.2) ∧ ISl (Rp.sl (Rp.int .i64)) (bl [.row 4 1 p_r1 n_r1 c_r1 vs29] ++ A) w p_t c_t t ∧ Fr (bl []) w0 (bl [.row 4 1 p_r1 n_r1 c_r1 vs29]) w) H ⟨vs12, ⟨rfl, rfl, rfl, rfl, rfl, trivial⟩, hO, hE13, h_t, hB⟩ ?_
  rintro X2 ⟨changed2_26, k2_27, in2_28⟩ H hX2 σ w25 ⟨vs29, hag, hO, hE30, h_t, hB⟩
  dsimp only at H
  refine Go1.keep [(0, .slice p_t t.length c_t), (5, .slice p_r1 n_r1 c_r1), (6, .bool changed2_26), (15, .int .i64 (t.length : Int)), (16, .int .i64 (k2_27 : Int))] hag ?_
  refine Go1.seq ?_
  refine Go1.region ?_
  by_cases h31 : (k2_27 : Int) < (t.length : Int)
  ·replace H := ifp h31 H
   refine GoR.op ((fun w => opB (op_lss rfl rfl w) (decide_eq_true h31)) _) rfl rfl ?_
   refine GoR.nil ?_
   refine Go1.seq ?_
   refine Go1.condT rfl rfl ?_
   refine Go1.skip ?_
   refine Go1.seq ?_
   refine Go1.block ?_
   refine Go1.seq ?_
   refine Go1.region ?_
   refine GoR.op ((op_move rfl) _) rfl rfl ?_
   refine GoR.op ((op_assign rfl) _) rfl rfl ?_
   refine GoR.nil ?_
   refine Go1.seq ?_
   refine Go1.region ?_
   refine GoR.op ((op_move rfl) _) rfl rfl ?_
   refine GoR.op ((op_len Try.underlying22 rfl) _) rfl rfl ?_
   refine GoR.op ((op_move rfl) _) rfl rfl ?_
   refine GoR.nil ?_
   refine Go1.block ?_
   refine Go1.loopW (S := Bool × Nat × List Bool) (fun s σ w => ∃ (vs36 : List Value), agrees σ [(0, .slice p_t t.length c_t), (5, .slice p_r1 n_r1 c_r1), (6, .bool (s.1)), (7, .int .i64 (k2_27 : Int)), (15, .int .i64 (t.length : Int)), (16, .int .i64 (k2_27 : Int)), (20, .int .i64 (t.length : Int)), (21, .int .i64 ((s.2.1) : Int))] ∧ Owns w0.heap.size w [.row 4 1 p_r1 n_r1 c_r1 vs36] A ∧ Els (Rp.bool) (bl [.row 4 1 p_r1 n_r1 c_r1 vs36] ++ A) w vs36 (s.2.2) ∧ ISl (Rp.sl (Rp.int .i64)) (bl [.row 4 1 p_r1 n_r1 c_r1 vs36] ++ A) w p_t c_t t ∧ Fr (bl []) w0 (bl [.row 4 1 p_r1 n_r1 c_r1 vs36]) w) H ⟨vs29, ⟨rfl, rfl, rfl, rfl, rfl, rfl, rfl, rfl, trivial⟩, hO, hE30, h_t, hB⟩ ?_
   rintro X3 ⟨changed3_33, k3_34, in3_35⟩ H hX3 σ w32 ⟨vs36, hag, hO, hE37, h_t, hB⟩
   dsimp only at H
   refine Go1.keep [(0, .slice p_t t.length c_t), (5, .slice p_r1 n_r1 c_r1), (6, .bool changed3_33), (7, .int .i64 (k2_27 : Int)), (15, .int .i64 (t.length : Int)), (16, .int .i64 (k2_27 : Int)), (20, .int .i64 (t.length : Int)), (21, .int .i64 (k3_34 : Int))] hag ?_
   refine Go1.seq ?_
   refine Go1.region ?_
   by_cases h38 : (k3_34 : Int) < (t.length : Int)
   ·replace H := ifp h38 H
    refine GoR.op ((fun w => opB (op_lss rfl rfl w) (decide_eq_true h38)) _) rfl rfl ?_
    refine GoR.nil ?_
    refine Go1.seq ?_
    refine Go1.condT rfl rfl ?_
    refine Go1.skip ?_
    refine Go1.seq ?_
    refine Go1.block ?_
    refine Go1.seq ?_
    refine Go1.region ?_
    refine GoR.op ((op_move rfl) _) rfl rfl ?_
    refine GoR.op ((op_assign rfl) _) rfl rfl ?_
    refine GoR.nil ?_
    refine Go1.seq ?_
    refine Go1.region ?_
    refine GoR.op ((op_move rfl) _) rfl rfl ?_
    refine GoR.op ((op_move rfl) _) rfl rfl ?_
    obtain ⟨h39, H⟩ := H
    obtain ⟨h40, H⟩ := H
    refine GoR.op ((op_index Try.underlying54 ti4 rfl rfl h39 (ltn (hE37.neq hO 0 rfl) h40) (hE37.psome hO 0 rfl h39 h40)) _) rfl rfl ?_
    by_cases h41 : ix in3_35 (k2_27 : Int) = true
    ·replace H := ifp h41 H
     refine GoR.op (opB ((oldBool 0 hO rfl hE37 h39 h40 Try.underlying4 rfl rfl) _ (Same.refl _)) (h41)) rfl rfl ?_
     refine GoR.op ((op_move rfl) _) rfl rfl ?_
     refine GoR.op ((op_move rfl) _) rfl rfl ?_
     refine GoR.op ((op_move rfl) _) rfl rfl ?_
     obtain ⟨h42, H⟩ := H
     obtain ⟨h43, H⟩ := H
     refine GoR.op ((op_index Try.underlying54 ti4 rfl rfl h42 (ltn (hE37.neq hO 0 rfl) h43) (hE37.psome hO 0 rfl h42 h43)) _) rfl rfl ?_
     by_cases h44 : ix in3_35 (k3_34 : Int) = true
     ·replace H := ifp h44 H
      refine GoR.op (opB ((oldBool 0 hO rfl hE37 h42 h43 Try.underlying4 rfl rfl) _ (Same.refl _)) (h44)) rfl rfl ?_
      refine GoR.op ((op_pickT rfl rfl rfl) _) rfl rfl ?_
      refine GoR.op ((op_move rfl) _) rfl rfl ?_
      refine GoR.op ((op_move rfl) _) rfl rfl ?_
      refine GoR.op ((op_move rfl) _) rfl rfl ?_
      refine GoR.op ((op_move rfl) _) rfl rfl ?_
      obtain ⟨h45, H⟩ := H
      obtain ⟨h46, H⟩ := H
      refine GoR.op ((op_index Try.underlying22 ti23 rfl rfl h45 h46 (h_t.some_ h45 h46)) _) rfl rfl ?_
      have hobt := ldSl h_t h45 h46
      obtain ⟨p47, c48, hi49, hl50⟩ := hobt
      refine GoR.op ((hl50 Try.underlying23 rfl rfl) _ (Same.refl _)) rfl rfl ?_
      refine GoR.op ((op_move rfl) _) rfl rfl ?_
      obtain ⟨h51, H⟩ := H
      obtain ⟨h52, H⟩ := H
      refine GoR.op ((op_index Try.underlying23 ti3 rfl rfl h51 h52 (hi49.some_ h51 h52)) _) rfl rfl ?_
      refine GoR.op ((ldInt hi49 h51 h52 Try.underlying3 rfl rfl) _ (Same.refl _)) rfl rfl ?_
      obtain ⟨h53, H⟩ := H
      obtain ⟨h54, H⟩ := H
      refine GoR.op ((op_index Try.underlying54 ti4 rfl rfl h53 (ltn (hE37.neq hO 0 rfl) h54) (hE37.psome hO 0 rfl h53 h54)) _) rfl rfl ?_
      by_cases h55 : ix in3_35 (ix (ix t (k2_27 : Int)) (k3_34 : Int)) = true
      ·replace H := ifp h55 H
       refine GoR.op (opB ((oldBool 0 hO rfl hE37 h53 h54 Try.underlying4 rfl rfl) _ (Same.refl _)) (h55)) rfl rfl ?_
       refine GoR.op ((op_not rfl) _) rfl rfl ?_
       refine GoR.op ((op_pickT rfl rfl rfl) _) rfl rfl ?_
       refine GoR.nil ?_
       refine Go1.condF rfl rfl ?_
       refine Go1.skip ?_
       refine Go1.inBlock ?_
       refine Go1.region ?_
       refine GoR.op ((op_add rfl rfl (wrap_i64 (natbd h38 h_t.bd))) _) rfl rfl ?_
       refine GoR.op ((op_move rfl) _) rfl rfl ?_
       refine GoR.nil ?_
       exact hX3 _ H _ _ ⟨vs36, ⟨rfl, rfl, rfl, rfl, rfl, rfl, rfl, rfl, trivial⟩, hO, hE37, h_t, hB⟩
      ·replace H := ifn h55 H
       refine GoR.op (opB ((oldBool 0 hO rfl hE37 h53 h54 Try.underlying4 rfl rfl) _ (Same.refl _)) (Bool.eq_false_iff.2 h55)) rfl rfl ?_
       refine GoR.op ((op_not rfl) _) rfl rfl ?_
       refine GoR.op ((op_pickT rfl rfl rfl) _) rfl rfl ?_
       refine GoR.nil ?_
       refine Go1.condT rfl rfl ?_
       refine Go1.seq ?_
       refine Go1.region ?_
       refine GoR.op ((op_move rfl) _) rfl rfl ?_
       refine GoR.op ((op_move rfl) _) rfl rfl ?_
       refine GoR.op ((op_move rfl) _) rfl rfl ?_
       obtain ⟨h56, H⟩ := H
       obtain ⟨h57, H⟩ := H
       refine GoR.op ((op_index Try.underlying22 ti23 rfl rfl h56 h57 (h_t.some_ h56 h57)) _) rfl rfl ?_
       have hobt := ldSl h_t h56 h57
       obtain ⟨p58, c59, hi60, hl61⟩ := hobt
       refine GoR.op ((hl61 Try.underlying23 rfl rfl) _ (Same.refl _)) rfl rfl ?_
       refine GoR.op ((op_move rfl) _) rfl rfl ?_
       obtain ⟨h62, H⟩ := H
       obtain ⟨h63, H⟩ := H
       refine GoR.op ((op_index Try.underlying23 ti3 rfl rfl h62 h63 (hi60.some_ h62 h63)) _) rfl rfl ?_
       refine GoR.op ((ldInt hi60 h62 h63 Try.underlying3 rfl rfl) _ (Same.refl _)) rfl rfl ?_
       obtain ⟨h64, H⟩ := H
       obtain ⟨h65, H⟩ := H
       refine GoR.op ((op_index Try.underlying54 ti4 rfl rfl h64 (ltn (hE37.neq hO 0 rfl) h65) (hE37.psome hO 0 rfl h64 h65)) _) rfl rfl ?_
       have hobt := ost (r := Rp.bool) rfl 0 hO rfl hE37 h64 h65 (v := .bool true) (u := true) rfl rfl
       obtain ⟨w66, vs67, hst68, hE69, hop70⟩ := hobt
       refine GoR.op (hop70 Try.underlying4 rfl ti4 rfl rfl) rfl rfl ?_
       replace hO := hst68.own
       replace h_t := h_t.ch hst68.ch
       replace hi49 := hi49.ch hst68.ch
       replace hi60 := hi60.ch hst68.ch
       replace hB := hB.trans hst68.fr
       refine GoR.nil ?_
       refine Go1.region ?_
       refine GoR.op ((op_assign rfl) _) rfl rfl ?_
       refine GoR.nil ?_
       refine Go1.inBlock ?_
       refine Go1.region ?_
       refine GoR.op ((op_add rfl rfl (wrap_i64 (natbd h38 h_t.bd))) _) rfl rfl ?_
       refine GoR.op ((op_move rfl) _) rfl rfl ?_
       refine GoR.nil ?_
       exact hX3 _ H _ _ ⟨vs67, ⟨rfl, rfl, rfl, rfl, rfl, rfl, rfl, rfl, trivial⟩, hO, hE69, h_t, hB⟩
     ·replace H := ifn h44 H
      refine GoR.op (opB ((oldBool 0 hO rfl hE37 h42 h43 Try.underlying4 rfl rfl) _ (Same.refl _)) (Bool.eq_false_iff.2 h44)) rfl rfl ?_
      refine GoR.op ((op_pickT rfl rfl rfl) _) rfl rfl ?_
      refine GoR.op ((op_move rfl) _) rfl rfl ?_
      refine GoR.pass rfl rfl ?_
      refine GoR.pass rfl rfl ?_
      refine GoR.pass rfl rfl ?_
      refine GoR.pass rfl rfl ?_
      refine GoR.pass rfl rfl ?_
      refine GoR.pass rfl rfl ?_
      refine GoR.pass rfl rfl ?_
      refine GoR.pass rfl rfl ?_
      refine GoR.pass rfl rfl ?_
      refine GoR.pass rfl rfl ?_
      refine GoR.pass rfl rfl ?_
      refine GoR.op ((op_pickF rfl rfl rfl) _) rfl rfl ?_
      refine GoR.nil ?_
      refine Go1.condF rfl rfl ?_
      refine Go1.skip ?_
      refine Go1.inBlock ?_
      refine Go1.region ?_
      refine GoR.op ((op_add rfl rfl (wrap_i64 (natbd h38 h_t.bd))) _) rfl rfl ?_
      refine GoR.op ((op_move rfl) _) rfl rfl ?_
      refine GoR.nil ?_
      exact hX3 _ H _ _ ⟨vs36, ⟨rfl, rfl, rfl, rfl, rfl, rfl, rfl, rfl, trivial⟩, hO, hE37, h_t, hB⟩
    ·replace H := ifn h41 H
     refine GoR.op (opB ((oldBool 0 hO rfl hE37 h39 h40 Try.underlying4 rfl rfl) _ (Same.refl _)) (Bool.eq_false_iff.2 h41)) rfl rfl ?_
     refine GoR.op ((op_move rfl) _) rfl rfl ?_
     refine GoR.pass rfl rfl ?_
     refine GoR.pass rfl rfl ?_
     refine GoR.pass rfl rfl ?_
     refine GoR.pass rfl rfl ?_
     refine GoR.op ((op_pickF rfl rfl rfl) _) rfl rfl ?_
     refine GoR.op ((op_move rfl) _) rfl rfl ?_
     refine GoR.pass rfl rfl ?_
     refine GoR.pass rfl rfl ?_
     refine GoR.pass rfl rfl ?_
     refine GoR.pass rfl rfl ?_
     refine GoR.pass rfl rfl ?_
     refine GoR.pass rfl rfl ?_
     refine GoR.pass rfl rfl ?_
     refine GoR.pass rfl rfl ?_
     refine GoR.pass rfl rfl ?_
     refine GoR.pass rfl rfl ?_
     refine GoR.pass rfl rfl ?_
     refine GoR.op ((op_pickF rfl rfl rfl) _) rfl rfl ?_
     refine GoR.nil ?_
     refine Go1.condF rfl rfl ?_
     refine Go1.skip ?_
     refine Go1.inBlock ?_
     refine Go1.region ?_
     refine GoR.op ((op_add rfl rfl (wrap_i64 (natbd h38 h_t.bd))) _) rfl rfl ?_
     refine GoR.op ((op_move rfl) _) rfl rfl ?_
     refine GoR.nil ?_
     exact hX3 _ H _ _ ⟨vs36, ⟨rfl, rfl, rfl, rfl, rfl, rfl, rfl, rfl, trivial⟩, hO, hE37, h_t, hB⟩
   ·replace H := ifn h38 H
    refine GoR.op ((fun w => opB (op_lss rfl rfl w) (decide_eq_false h38)) _) rfl rfl ?_
    refine GoR.nil ?_
    refine Go1.seq ?_
    refine Go1.condF rfl rfl ?_
    refine Go1.exit rfl ?_
    refine Go1.inBlock ?_
    refine Go1.region ?_
    refine GoR.op ((op_add rfl rfl (wrap_i64 (natbd h31 h_t.bd))) _) rfl rfl ?_
    refine GoR.op ((op_move rfl) _) rfl rfl ?_
    refine GoR.nil ?_
    exact hX2 _ H _ _ ⟨vs36, ⟨rfl, rfl, rfl, rfl, rfl, trivial⟩, hO, hE37, h_t, hB⟩
  ·replace H := ifn h31 H
   refine GoR.op ((fun w => opB (op_lss rfl rfl w) (decide_eq_false h31)) _) rfl rfl ?_
   refine GoR.nil ?_
   refine Go1.seq ?_
   refine Go1.condF rfl rfl ?_
   refine Go1.exit rfl ?_
   refine Go1.inBlock ?_
   exact hX1 _ H _ _ ⟨vs29, ⟨rfl, rfl, rfl, trivial⟩, hO, hE30, h_t, hB⟩
theorem body13 : Body Try.prog 13 := ⟨Try.f13, Try.func13, rfl, by kernel_rfl⟩
theorem walk_law14_MultGenerates {A : List Nat} {w0 : World} {p_a0 : Option Addr} {c_a0 : Nat} {p_a1 : Option Addr} {c_a1 : Nat} {p_a2 : Option Addr} {c_a2 : Nat} {a0 : List (List Int)} {a1 : List Int} {a2 : List Int} (hA : ∀ b ∈ A, b < w0.heap.size) (h_a0 : ISl (Rp.sl (Rp.int .i64)) A w0 p_a0 c_a0 a0) (h_a1 : ISl (Rp.int .i64) A w0 p_a1 c_a1 a1) (h_a2 : ISl (Rp.int .i64) A w0 p_a2 c_a2 a2) {K : Bool → Prop} (H : law14_MultGenerates a0 a1 a2 K) :
    CallsV Try.prog 13 #[.slice p_a0 a0.length c_a0, .slice p_a1 a1.length c_a1, .slice p_a2 a2.length c_a2] w0 (fun v w' => ∃ (r0 : Bool), v = .bool r0 ∧ Same w0 w' ∧ K r0) := by
 refine CallsV.of (l := [.slice p_a0 a0.length c_a0, .slice p_a1 a1.length c_a1, .slice p_a2 a2.length c_a2]) Try.func13 rfl Try.ntmps13 rfl ?_
 have hO := Owns.start hA
 have hB := Fr.refl (bl []) w0
 unfold law14_MultGenerates at H
 replace h_a0 := h_a0.ch (Ch.start A w0)
 replace h_a1 := h_a1.ch (Ch.start A w0)
 replace h_a2 := h_a2.ch (Ch.start A w0)
 refine Go1.seq ?_
 refine Go1.region ?_
 refine GoR.op ((op_assign rfl) _) rfl rfl ?_
 refine GoR.nil ?_
 refine Go1.seq ?_
 refine Go1.seq ?_
 refine Go1.region ?_
 refine GoR.op ((op_move rfl) _) rfl rfl ?_
 refine GoR.call (op_call body19 rfl (walk_ref14_Shape hO.lt h_a0 H)) rfl rfl ?_
 rintro v5 w2 ⟨r1, rfl, hs3, H⟩
 have hst6 := Stp.same hO hs3
 replace hO := hst6.own
 replace h_a0 := h_a0.ch hst6.ch
 replace h_a1 := h_a1.ch hst6.ch
 replace h_a2 := h_a2.ch hst6.ch
 replace hB := hB.trans hst6.fr
 by_cases h7 : r1 = (0 : Int)
 ·replace H := ifp h7 H
  refine GoR.op ((fun w => opB (op_eql rfl rfl w) (decide_eq_true h7)) _) rfl rfl ?_
  refine GoR.op ((op_move rfl) _) rfl rfl ?_
  refine GoR.op ((op_move rfl) _) rfl rfl ?_
  refine GoR.op ((op_len Try.underlying22 rfl) _) rfl rfl ?_
  replace H := H h_a0.bd
  by_cases h8 : (20 : Int) < (a0.length : Int)
  ·replace H := ifp h8 H
   refine GoR.op ((fun w => opB (op_gtr rfl rfl w) (decide_eq_true h8)) _) rfl rfl ?_
   refine GoR.op ((op_pickT rfl rfl rfl) _) rfl rfl ?_
   refine GoR.nil ?_
   refine Go1.condT rfl rfl ?_
   refine Go1.seq ?_
   refine Go1.region ?_
   refine GoR.call (op_call body16 rfl (walk_law14_awake hO.lt H)) rfl rfl ?_
   rintro v13 w10 ⟨r9, rfl, hs11, H⟩
   have hst14 := Stp.same hO hs11
   replace hO := hst14.own
   replace h_a0 := h_a0.ch hst14.ch
   replace h_a1 := h_a1.ch hst14.ch
   replace h_a2 := h_a2.ch hst14.ch
   replace hB := hB.trans hst14.fr
   refine GoR.op ((op_assign rfl) _) rfl rfl ?_
   refine GoR.nil ?_
   refine Go1.ret1 Try.func13 rfl ?_
   exact ⟨r9, rfl, hB.same, H⟩
  ·replace H := ifn h8 H
   refine GoR.op ((fun w => opB (op_gtr rfl rfl w) (decide_eq_false h8)) _) rfl rfl ?_
   refine GoR.op ((op_pickT rfl rfl rfl) _) rfl rfl ?_
   refine GoR.nil ?_
   refine Go1.condF rfl rfl ?_
   refine Go1.skip ?_
   refine Go1.seq ?_
   refine Go1.region ?_
   refine GoR.op ((op_move rfl) _) rfl rfl ?_
   refine GoR.op ((op_move rfl) _) rfl rfl ?_
   refine GoR.call (op_call body58 rfl (walk_mult_Generated hO.lt h_a0 h_a1 H)) rfl rfl ?_
   rintro v19 w16 ⟨r15, p_r15, c_r15, rfl, hs17, h_r15, H⟩
   have hst20 := Stp.same hO hs17
   replace hO := hst20.own
   replace h_a0 := h_a0.ch hst20.ch
   replace h_a1 := h_a1.ch hst20.ch
   replace h_a2 := h_a2.ch hst20.ch
   replace hB := hB.trans hst20.fr
   refine GoR.op ((op_assign rfl) _) rfl rfl ?_
   refine GoR.nil ?_
   refine Go1.seq ?_
   refine Go1.region ?_
   refine GoR.op ((op_move rfl) _) rfl rfl ?_
   refine GoR.op ((op_move rfl) _) rfl rfl ?_
   refine GoR.call (op_call body59 rfl (walk_mult_Sub hO.lt h_a0 h_a2 H)) rfl rfl ?_
   rintro v26 w23 ⟨r21, r22, p_r21, c_r21, rfl, hs24, h_r21, H⟩
   have hst27 := Stp.same hO hs24
   replace hO := hst27.own
   replace h_a0 := h_a0.ch hst27.ch
   replace h_a1 := h_a1.ch hst27.ch
   replace h_a2 := h_a2.ch hst27.ch
   replace h_r15 := h_r15.ch hst27.ch
   replace hB := hB.trans hst27.fr
   refine GoR.op ((op_move rfl) _) rfl rfl ?_
   refine GoR.op ((op_extract rfl rfl) _) rfl rfl ?_
   refine GoR.op ((op_extract rfl rfl) _) rfl rfl ?_
   refine GoR.op ((op_assign rfl) _) rfl rfl ?_
   refine GoR.op ((op_assign rfl) _) rfl rfl ?_
   refine GoR.nil ?_
   refine Go1.seq ?_
   refine Go1.region ?_
   refine GoR.op ((op_move rfl) _) rfl rfl ?_
   refine GoR.op ((op_move rfl) _) rfl rfl ?_
   refine GoR.call (op_call body60 rfl (walk_ref14_Sub hO.lt h_a0 h_a2 H)) rfl rfl ?_
   rintro v33 w30 ⟨r28, r29, p_r28, c_r28, rfl, hs31, h_r28, H⟩
   have hst34 := Stp.same hO hs31
   replace hO := hst34.own
   replace h_a0 := h_a0.ch hst34.ch
   replace h_a1 := h_a1.ch hst34.ch
   replace h_a2 := h_a2.ch hst34.ch
   replace h_r15 := h_r15.ch hst34.ch
   replace h_r21 := h_r21.ch hst34.ch
   replace hB := hB.trans hst34.fr
   refine GoR.op ((op_move rfl) _) rfl rfl ?_
   refine GoR.op ((op_extract rfl rfl) _) rfl rfl ?_
   refine GoR.op ((op_extract rfl rfl) _) rfl rfl ?_
   refine GoR.op ((op_assign rfl) _) rfl rfl ?_
   refine GoR.op ((op_assign rfl) _) rfl rfl ?_
   refine GoR.nil ?_
   refine Go1.seq ?_
   refine Go1.seq ?_
   refine Go1.region ?_
   refine GoR.op ((op_move rfl) _) rfl rfl ?_
   refine GoR.op ((op_move rfl) _) rfl rfl ?_
   by_cases h35 : r22 = r29
   ·replace H := ifp h35 H
    refine GoR.op ((fun w => opB (op_neq rfl rfl w) (ndT h35)) _) rfl rfl ?_
    refine GoR.op ((op_move rfl) _) rfl rfl ?_
    refine GoR.op ((op_move rfl) _) rfl rfl ?_
    refine GoR.op ((op_move rfl) _) rfl rfl ?_
    refine GoR.call (op_call body47 rfl (walk_ref03_SameRows hO.lt h_r21 h_r28 H)) rfl rfl ?_
    rintro v40 w37 ⟨r36, rfl, hs38, H⟩
    have hst41 := Stp.same hO hs38
    replace hO := hst41.own
    replace h_a0 := h_a0.ch hst41.ch
    replace h_a1 := h_a1.ch hst41.ch
    replace h_a2 := h_a2.ch hst41.ch
    replace h_r15 := h_r15.ch hst41.ch
    replace h_r21 := h_r21.ch hst41.ch
    replace h_r28 := h_r28.ch hst41.ch
    replace hB := hB.trans hst41.fr
    cases r36
    ·replace H := ifn Bool.false_ne_true H
     refine GoR.op ((op_not rfl) _) rfl rfl ?_
     refine GoR.op ((op_pickF rfl rfl rfl) _) rfl rfl ?_
     refine GoR.nil ?_
     refine Go1.condT rfl rfl ?_
     refine Go1.seq ?_
     refine Go1.region ?_
     refine GoR.op ((op_assign rfl) _) rfl rfl ?_
     refine GoR.nil ?_
     refine Go1.ret1 Try.func13 rfl ?_
     exact ⟨false, rfl, hB.same, H⟩
    ·replace H := ifp rfl H
     refine GoR.op ((op_not rfl) _) rfl rfl ?_
     refine GoR.op ((op_pickF rfl rfl rfl) _) rfl rfl ?_
     refine GoR.nil ?_
     refine Go1.condF rfl rfl ?_
     refine Go1.skip ?_
     refine Go1.seq ?_
     refine Go1.seq ?_
     refine Go1.region ?_
     refine GoR.op ((op_move rfl) _) rfl rfl ?_
     refine GoR.call (op_call body26 rfl (walk_ref14_Valid hO.lt h_a0 H)) rfl rfl ?_
     rintro v46 w43 ⟨r42, rfl, hs44, H⟩
     have hst47 := Stp.same hO hs44
     replace hO := hst47.own
     replace h_a0 := h_a0.ch hst47.ch
     replace h_a1 := h_a1.ch hst47.ch
     replace h_a2 := h_a2.ch hst47.ch
     replace h_r15 := h_r15.ch hst47.ch
     replace h_r21 := h_r21.ch hst47.ch
     replace h_r28 := h_r28.ch hst47.ch
     replace hB := hB.trans hst47.fr
     cases r42
     ·replace H := ifn Bool.false_ne_true H
      refine GoR.op ((op_not rfl) _) rfl rfl ?_
      refine GoR.op ((op_move rfl) _) rfl rfl ?_
      refine GoR.pass rfl rfl ?_
      refine GoR.pass rfl rfl ?_
      refine GoR.pass rfl rfl ?_
      refine GoR.pass rfl rfl ?_
      refine GoR.op ((op_pickT rfl rfl rfl) _) rfl rfl ?_
      refine GoR.nil ?_
      refine Go1.condT rfl rfl ?_
      refine Go1.seq ?_
      refine Go1.region ?_
      refine GoR.op ((op_move rfl) _) rfl rfl ?_
      refine GoR.op ((op_len Try.underlying23 rfl) _) rfl rfl ?_
      replace H := H h_r15.bd
      by_cases h48 : (r15.length : Int) = (0 : Int)
      ·replace H := ifp h48 H
       refine GoR.op ((fun w => opB (op_eql rfl rfl w) (decide_eq_true h48)) _) rfl rfl ?_
       refine GoR.op ((op_move rfl) _) rfl rfl ?_
       refine GoR.call (op_call body16 rfl (walk_law14_awake hO.lt H)) rfl rfl ?_
       rintro v53 w50 ⟨r49, rfl, hs51, H⟩
       have hst54 := Stp.same hO hs51
       replace hO := hst54.own
       replace h_a0 := h_a0.ch hst54.ch
       replace h_a1 := h_a1.ch hst54.ch
       replace h_a2 := h_a2.ch hst54.ch
       replace h_r15 := h_r15.ch hst54.ch
       replace h_r21 := h_r21.ch hst54.ch
       replace h_r28 := h_r28.ch hst54.ch
       replace hB := hB.trans hst54.fr
       refine GoR.op ((op_pickT rfl rfl rfl) _) rfl rfl ?_
       refine GoR.op ((op_assign rfl) _) rfl rfl ?_
       refine GoR.nil ?_
       refine Go1.ret1 Try.func13 rfl ?_
       exact ⟨r49, rfl, hB.same, H⟩
      ·replace H := ifn h48 H
       refine GoR.op ((fun w => opB (op_eql rfl rfl w) (decide_eq_false h48)) _) rfl rfl ?_
       refine GoR.op ((op_move rfl) _) rfl rfl ?_
       refine GoR.pass rfl rfl ?_
       refine GoR.op ((op_pickF rfl rfl rfl) _) rfl rfl ?_
       refine GoR.op ((op_assign rfl) _) rfl rfl ?_
       refine GoR.nil ?_
       refine Go1.ret1 Try.func13 rfl ?_
       exact ⟨false, rfl, hB.same, H⟩
     ·replace H := ifp rfl H
      refine GoR.op ((op_not rfl) _) rfl rfl ?_
      refine GoR.op ((op_move rfl) _) rfl rfl ?_
      refine GoR.op ((op_move rfl) _) rfl rfl ?_
      refine GoR.op ((op_move rfl) _) rfl rfl ?_
      refine GoR.call (op_call body20 rfl (walk_ref14_In hO.lt h_a0 h_a1 H)) rfl rfl ?_
      rintro v59 w56 ⟨r55, rfl, hs57, H⟩
      have hst60 := Stp.same hO hs57
      replace hO := hst60.own
      replace h_a0 := h_a0.ch hst60.ch
      replace h_a1 := h_a1.ch hst60.ch
      replace h_a2 := h_a2.ch hst60.ch
      replace h_r15 := h_r15.ch hst60.ch
      replace h_r21 := h_r21.ch hst60.ch
      replace h_r28 := h_r28.ch hst60.ch
      replace hB := hB.trans hst60.fr
      cases r55
      ·replace H := ifn Bool.false_ne_true H
       refine GoR.op ((op_not rfl) _) rfl rfl ?_
       refine GoR.op ((op_pickF rfl rfl rfl) _) rfl rfl ?_
       refine GoR.nil ?_
       refine Go1.condT rfl rfl ?_
       refine Go1.seq ?_
       refine Go1.region ?_
       refine GoR.op ((op_move rfl) _) rfl rfl ?_
       refine GoR.op ((op_len Try.underlying23 rfl) _) rfl rfl ?_
       replace H := H h_r15.bd
       by_cases h61 : (r15.length : Int) = (0 : Int)
       ·replace H := ifp h61 H
        refine GoR.op ((fun w => opB (op_eql rfl rfl w) (decide_eq_true h61)) _) rfl rfl ?_
        refine GoR.op ((op_move rfl) _) rfl rfl ?_
        refine GoR.call (op_call body16 rfl (walk_law14_awake hO.lt H)) rfl rfl ?_
        rintro v66 w63 ⟨r62, rfl, hs64, H⟩
        have hst67 := Stp.same hO hs64
        replace hO := hst67.own
        replace h_a0 := h_a0.ch hst67.ch
        replace h_a1 := h_a1.ch hst67.ch
        replace h_a2 := h_a2.ch hst67.ch
        replace h_r15 := h_r15.ch hst67.ch
        replace h_r21 := h_r21.ch hst67.ch
        replace h_r28 := h_r28.ch hst67.ch
        replace hB := hB.trans hst67.fr
        refine GoR.op ((op_pickT rfl rfl rfl) _) rfl rfl ?_
        refine GoR.op ((op_assign rfl) _) rfl rfl ?_
        refine GoR.nil ?_
        refine Go1.ret1 Try.func13 rfl ?_
        exact ⟨r62, rfl, hB.same, H⟩
       ·replace H := ifn h61 H
        refine GoR.op ((fun w => opB (op_eql rfl rfl w) (decide_eq_false h61)) _) rfl rfl ?_
        refine GoR.op ((op_move rfl) _) rfl rfl ?_
        refine GoR.pass rfl rfl ?_
        refine GoR.op ((op_pickF rfl rfl rfl) _) rfl rfl ?_
        refine GoR.op ((op_assign rfl) _) rfl rfl ?_
        refine GoR.nil ?_
        refine Go1.ret1 Try.func13 rfl ?_
        exact ⟨false, rfl, hB.same, H⟩
      ·replace H := ifp rfl H
       refine GoR.op ((op_not rfl) _) rfl rfl ?_
       refine GoR.op ((op_pickF rfl rfl rfl) _) rfl rfl ?_
       refine GoR.nil ?_
       refine Go1.condF rfl rfl ?_
       refine Go1.skip ?_
       refine Go1.seq ?_
       refine Go1.region ?_
       refine GoR.op ((op_move rfl) _) rfl rfl ?_
       refine GoR.op ((op_move rfl) _) rfl rfl ?_
       refine GoR.op ((op_move rfl) _) rfl rfl ?_
       refine GoR.call (op_call body21 rfl (walk_ref14_Generated hO.lt h_a0 h_a1 H)) rfl rfl ?_
       rintro v73 w70 ⟨r68, n_r68, p_r68, c_r68, vs_r68, rfl, hs71, hN72, hE69, H⟩
       have hst74 := Stp.more hO hs71 hN72
       replace hO := hst74.own
       replace h_a0 := h_a0.ch hst74.ch
       replace h_a1 := h_a1.ch hst74.ch
       replace h_a2 := h_a2.ch hst74.ch
       replace h_r15 := h_r15.ch hst74.ch
       replace h_r21 := h_r21.ch hst74.ch
       replace h_r28 := h_r28.ch hst74.ch
       replace hB := hB.trans hst74.fr
       replace hE69 := hE69.ch (Ch.assoc _ _ _ _)
       have hobt := rowlend 0 hO rfl hE69
       obtain ⟨hl76, hn77⟩ := hobt
       have hOc78 := hO.drop 0
       refine GoR.call (op_call body40 (show ([.slice p_r15 r15.length c_r15, .slice p_r68 n_r68 c_r68] : List Value) = [.slice p_r15 r15.length c_r15, .slice p_r68 r68.length c_r68] from by rw [← hn77]) (walk_ref03_Same hOc78.lt (h_r15.ch (Owns.dropCh _ _ 0)) hl76 H)) rfl rfl ?_
       rintro v83 w80 ⟨r79, rfl, hs81, H⟩
       have hst84 := Stp.same hO hs81
       replace hE69 := hE69.ch hst84.ch
       replace hO := hst84.own
       replace h_a0 := h_a0.ch hst84.ch
       replace h_a1 := h_a1.ch hst84.ch
       replace h_a2 := h_a2.ch hst84.ch
       replace h_r15 := h_r15.ch hst84.ch
       replace h_r21 := h_r21.ch hst84.ch
       replace h_r28 := h_r28.ch hst84.ch
       replace hB := hB.trans hst84.fr
       refine GoR.op ((op_move rfl) _) rfl rfl ?_
       cases r79
       ·replace H := ifn Bool.false_ne_true H
        refine GoR.pass rfl rfl ?_
        refine GoR.op ((op_pickF rfl rfl rfl) _) rfl rfl ?_
        refine GoR.op ((op_assign rfl) _) rfl rfl ?_
        refine GoR.nil ?_
        refine Go1.ret1 Try.func13 rfl ?_
        exact ⟨false, rfl, hB.same, H⟩
       ·replace H := ifp rfl H
        refine GoR.call (op_call body16 rfl (walk_law14_awake hO.lt H)) rfl rfl ?_
        rintro v89 w86 ⟨r85, rfl, hs87, H⟩
        have hst90 := Stp.same hO hs87
        replace hE69 := hE69.ch hst90.ch
        replace hO := hst90.own
        replace h_a0 := h_a0.ch hst90.ch
        replace h_a1 := h_a1.ch hst90.ch
        replace h_a2 := h_a2.ch hst90.ch
        replace h_r15 := h_r15.ch hst90.ch
        replace h_r21 := h_r21.ch hst90.ch
        replace h_r28 := h_r28.ch hst90.ch
        replace hB := hB.trans hst90.fr
        refine GoR.op ((op_pickT rfl rfl rfl) _) rfl rfl ?_
        refine GoR.op ((op_assign rfl) _) rfl rfl ?_
        refine GoR.nil ?_
        refine Go1.ret1 Try.func13 rfl ?_
        exact ⟨r85, rfl, hB.same, H⟩
   ·replace H := ifn h35 H
    refine GoR.op ((fun w => opB (op_neq rfl rfl w) (ndF h35)) _) rfl rfl ?_
    refine GoR.op ((op_move rfl) _) rfl rfl ?_
    refine GoR.pass rfl rfl ?_
    refine GoR.pass rfl rfl ?_
    refine GoR.pass rfl rfl ?_
    refine GoR.pass rfl rfl ?_
    refine GoR.op ((op_pickT rfl rfl rfl) _) rfl rfl ?_
    refine GoR.nil ?_
    refine Go1.condT rfl rfl ?_
    refine Go1.seq ?_
    refine Go1.region ?_
    refine GoR.op ((op_assign rfl) _) rfl rfl ?_
    refine GoR.nil ?_
    refine Go1.ret1 Try.func13 rfl ?_
    exact ⟨false, rfl, hB.same, H⟩
 ·replace H := ifn h7 H
  refine GoR.op ((fun w => opB (op_eql rfl rfl w) (decide_eq_false h7)) _) rfl rfl ?_
  refine GoR.op ((op_move rfl) _) rfl rfl ?_
  refine GoR.pass rfl rfl ?_
  refine GoR.pass rfl rfl ?_
  refine GoR.pass rfl rfl ?_
  refine GoR.op ((op_pickF rfl rfl rfl) _) rfl rfl ?_
  refine GoR.nil ?_
  refine Go1.condF rfl rfl ?_
  refine Go1.skip ?_
  refine Go1.seq ?_
  refine Go1.region ?_
  refine GoR.op ((op_move rfl) _) rfl rfl ?_
  refine GoR.op ((op_move rfl) _) rfl rfl ?_
  refine GoR.call (op_call body58 rfl (walk_mult_Generated hO.lt h_a0 h_a1 H)) rfl rfl ?_
  rintro v95 w92 ⟨r91, p_r91, c_r91, rfl, hs93, h_r91, H⟩
  have hst96 := Stp.same hO hs93
  replace hO := hst96.own
  replace h_a0 := h_a0.ch hst96.ch
  replace h_a1 := h_a1.ch hst96.ch
  replace h_a2 := h_a2.ch hst96.ch
  replace hB := hB.trans hst96.fr
  refine GoR.op ((op_assign rfl) _) rfl rfl ?_
  refine GoR.nil ?_
  refine Go1.seq ?_
  refine Go1.region ?_
  refine GoR.op ((op_move rfl) _) rfl rfl ?_
  refine GoR.op ((op_move rfl) _) rfl rfl ?_
  refine GoR.call (op_call body59 rfl (walk_mult_Sub hO.lt h_a0 h_a2 H)) rfl rfl ?_
  rintro v102 w99 ⟨r97, r98, p_r97, c_r97, rfl, hs100, h_r97, H⟩
  have hst103 := Stp.same hO hs100
  replace hO := hst103.own
  replace h_a0 := h_a0.ch hst103.ch
  replace h_a1 := h_a1.ch hst103.ch
  replace h_a2 := h_a2.ch hst103.ch
  replace h_r91 := h_r91.ch hst103.ch
  replace hB := hB.trans hst103.fr
  refine GoR.op ((op_move rfl) _) rfl rfl ?_
  refine GoR.op ((op_extract rfl rfl) _) rfl rfl ?_
  refine GoR.op ((op_extract rfl rfl) _) rfl rfl ?_
  refine GoR.op ((op_assign rfl) _) rfl rfl ?_
  refine GoR.op ((op_assign rfl) _) rfl rfl ?_
  refine GoR.nil ?_
  refine Go1.seq ?_
  refine Go1.region ?_
  refine GoR.op ((op_move rfl) _) rfl rfl ?_
  refine GoR.op ((op_move rfl) _) rfl rfl ?_
  refine GoR.call (op_call body60 rfl (walk_ref14_Sub hO.lt h_a0 h_a2 H)) rfl rfl ?_
  rintro v109 w106 ⟨r104, r105, p_r104, c_r104, rfl, hs107, h_r104, H⟩
  have hst110 := Stp.same hO hs107
  replace hO := hst110.own
  replace h_a0 := h_a0.ch hst110.ch
  replace h_a1 := h_a1.ch hst110.ch
  replace h_a2 := h_a2.ch hst110.ch
  replace h_r91 := h_r91.ch hst110.ch
  replace h_r97 := h_r97.ch hst110.ch
  replace hB := hB.trans hst110.fr
  refine GoR.op ((op_move rfl) _) rfl rfl ?_
  refine GoR.op ((op_extract rfl rfl) _) rfl rfl ?_
  refine GoR.op ((op_extract rfl rfl) _) rfl rfl ?_
  refine GoR.op ((op_assign rfl) _) rfl rfl ?_
  refine GoR.op ((op_assign rfl) _) rfl rfl ?_
  refine GoR.nil ?_
  refine Go1.seq ?_
  refine Go1.seq ?_
  refine Go1.region ?_
  refine GoR.op ((op_move rfl) _) rfl rfl ?_
  refine GoR.op ((op_move rfl) _) rfl rfl ?_
  by_cases h111 : r98 = r105
  ·replace H := ifp h111 H
   refine GoR.op ((fun w => opB (op_neq rfl rfl w) (ndT h111)) _) rfl rfl ?_
   refine GoR.op ((op_move rfl) _) rfl rfl ?_
   refine GoR.op ((op_move rfl) _) rfl rfl ?_
   refine GoR.op ((op_move rfl) _) rfl rfl ?_
   refine GoR.call (op_call body47 rfl (walk_ref03_SameRows hO.lt h_r97 h_r104 H)) rfl rfl ?_
   rintro v116 w113 ⟨r112, rfl, hs114, H⟩
   have hst117 := Stp.same hO hs114
   replace hO := hst117.own
   replace h_a0 := h_a0.ch hst117.ch
   replace h_a1 := h_a1.ch hst117.ch
   replace h_a2 := h_a2.ch hst117.ch
   replace h_r91 := h_r91.ch hst117.ch
   replace h_r97 := h_r97.ch hst117.ch
   replace h_r104 := h_r104.ch hst117.ch
   replace hB := hB.trans hst117.fr
   cases r112
   ·replace H := ifn Bool.false_ne_true H
    refine GoR.op ((op_not rfl) _) rfl rfl ?_
    refine GoR.op ((op_pickF rfl rfl rfl) _) rfl rfl ?_
    refine GoR.nil ?_
    refine Go1.condT rfl rfl ?_
    refine Go1.seq ?_
    refine Go1.region ?_
    refine GoR.op ((op_assign rfl) _) rfl rfl ?_
    refine GoR.nil ?_
    refine Go1.ret1 Try.func13 rfl ?_
    exact ⟨false, rfl, hB.same, H⟩
   ·replace H := ifp rfl H
    refine GoR.op ((op_not rfl) _) rfl rfl ?_
    refine GoR.op ((op_pickF rfl rfl rfl) _) rfl rfl ?_
    refine GoR.nil ?_
    refine Go1.condF rfl rfl ?_
    refine Go1.skip ?_
    refine Go1.seq ?_
    refine Go1.seq ?_
    refine Go1.region ?_
    refine GoR.op ((op_move rfl) _) rfl rfl ?_
    refine GoR.call (op_call body26 rfl (walk_ref14_Valid hO.lt h_a0 H)) rfl rfl ?_
    rintro v122 w119 ⟨r118, rfl, hs120, H⟩
    have hst123 := Stp.same hO hs120
    replace hO := hst123.own
    replace h_a0 := h_a0.ch hst123.ch
    replace h_a1 := h_a1.ch hst123.ch
    replace h_a2 := h_a2.ch hst123.ch
    replace h_r91 := h_r91.ch hst123.ch
    replace h_r97 := h_r97.ch hst123.ch
    replace h_r104 := h_r104.ch hst123.ch
    replace hB := hB.trans hst123.fr
    cases r118
    ·replace H := ifn Bool.false_ne_true H
     refine GoR.op ((op_not rfl) _) rfl rfl ?_
     refine GoR.op ((op_move rfl) _) rfl rfl ?_
     refine GoR.pass rfl rfl ?_
     refine GoR.pass rfl rfl ?_
     refine GoR.pass rfl rfl ?_
     refine GoR.pass rfl rfl ?_
     refine GoR.op ((op_pickT rfl rfl rfl) _) rfl rfl ?_
     refine GoR.nil ?_
     refine Go1.condT rfl rfl ?_
     refine Go1.seq ?_
     refine Go1.region ?_
     refine GoR.op ((op_move rfl) _) rfl rfl ?_
     refine GoR.op ((op_len Try.underlying23 rfl) _) rfl rfl ?_
     replace H := H h_r91.bd
     by_cases h124 : (r91.length : Int) = (0 : Int)
     ·replace H := ifp h124 H
      refine GoR.op ((fun w => opB (op_eql rfl rfl w) (decide_eq_true h124)) _) rfl rfl ?_
      refine GoR.op ((op_move rfl) _) rfl rfl ?_
      refine GoR.call (op_call body16 rfl (walk_law14_awake hO.lt H)) rfl rfl ?_
      rintro v129 w126 ⟨r125, rfl, hs127, H⟩
      have hst130 := Stp.same hO hs127
      replace hO := hst130.own
      replace h_a0 := h_a0.ch hst130.ch
      replace h_a1 := h_a1.ch hst130.ch
      replace h_a2 := h_a2.ch hst130.ch
      replace h_r91 := h_r91.ch hst130.ch
      replace h_r97 := h_r97.ch hst130.ch
      replace h_r104 := h_r104.ch hst130.ch
      replace hB := hB.trans hst130.fr
      refine GoR.op ((op_pickT rfl rfl rfl) _) rfl rfl ?_
      refine GoR.op ((op_assign rfl) _) rfl rfl ?_
      refine GoR.nil ?_
      refine Go1.ret1 Try.func13 rfl ?_
      exact ⟨r125, rfl, hB.same, H⟩
     ·replace H := ifn h124 H
      refine GoR.op ((fun w => opB (op_eql rfl rfl w) (decide_eq_false h124)) _) rfl rfl ?_
      refine GoR.op ((op_move rfl) _) rfl rfl ?_
      refine GoR.pass rfl rfl ?_
      refine GoR.op ((op_pickF rfl rfl rfl) _) rfl rfl ?_
      refine GoR.op ((op_assign rfl) _) rfl rfl ?_
      refine GoR.nil ?_
      refine Go1.ret1 Try.func13 rfl ?_
      exact ⟨false, rfl, hB.same, H⟩
    ·replace H := ifp rfl H
     refine GoR.op ((op_not rfl) _) rfl rfl ?_
     refine GoR.op ((op_move rfl) _) rfl rfl ?_
     refine GoR.op ((op_move rfl) _) rfl rfl ?_
     refine GoR.op ((op_move rfl) _) rfl rfl ?_
     refine GoR.call (op_call body20 rfl (walk_ref14_In hO.lt h_a0 h_a1 H)) rfl rfl ?_
     rintro v135 w132 ⟨r131, rfl, hs133, H⟩
     have hst136 := Stp.same hO hs133
     replace hO := hst136.own
     replace h_a0 := h_a0.ch hst136.ch
     replace h_a1 := h_a1.ch hst136.ch
     replace h_a2 := h_a2.ch hst136.ch
     replace h_r91 := h_r91.ch hst136.ch
     replace h_r97 := h_r97.ch hst136.ch
     replace h_r104 := h_r104.ch hst136.ch
     replace hB := hB.trans hst136.fr
     cases r131
     ·replace H := ifn Bool.false_ne_true H
      refine GoR.op ((op_not rfl) _) rfl rfl ?_
      refine GoR.op ((op_pickF rfl rfl rfl) _) rfl rfl ?_
      refine GoR.nil ?_
      refine Go1.condT rfl rfl ?_
      refine Go1.seq ?_
      refine Go1.region ?_
      refine GoR.op ((op_move rfl) _) rfl rfl ?_
      refine GoR.op ((op_len Try.underlying23 rfl) _) rfl rfl ?_
      replace H := H h_r91.bd
      by_cases h137 : (r91.length : Int) = (0 : Int)
      ·replace H := ifp h137 H
       refine GoR.op ((fun w => opB (op_eql rfl rfl w) (decide_eq_true h137)) _) rfl rfl ?_
       refine GoR.op ((op_move rfl) _) rfl rfl ?_
       refine GoR.call (op_call body16 rfl (walk_law14_awake hO.lt H)) rfl rfl ?_
       rintro v142 w139 ⟨r138, rfl, hs140, H⟩
       have hst143 := Stp.same hO hs140
       replace hO := hst143.own
       replace h_a0 := h_a0.ch hst143.ch
       replace h_a1 := h_a1.ch hst143.ch
       replace h_a2 := h_a2.ch hst143.ch
       replace h_r91 := h_r91.ch hst143.ch
       replace h_r97 := h_r97.ch hst143.ch
       replace h_r104 := h_r104.ch hst143.ch
       replace hB := hB.trans hst143.fr
       refine GoR.op ((op_pickT rfl rfl rfl) _) rfl rfl ?_
       refine GoR.op ((op_assign rfl) _) rfl rfl ?_
       refine GoR.nil ?_
       refine Go1.ret1 Try.func13 rfl ?_
       exact ⟨r138, rfl, hB.same, H⟩
      ·replace H := ifn h137 H
       refine GoR.op ((fun w => opB (op_eql rfl rfl w) (decide_eq_false h137)) _) rfl rfl ?_
       refine GoR.op ((op_move rfl) _) rfl rfl ?_
       refine GoR.pass rfl rfl ?_
       refine GoR.op ((op_pickF rfl rfl rfl) _) rfl rfl ?_
       refine GoR.op ((op_assign rfl) _) rfl rfl ?_
       refine GoR.nil ?_
       refine Go1.ret1 Try.func13 rfl ?_
       exact ⟨false, rfl, hB.same, H⟩
     ·replace H := ifp rfl H
      refine GoR.op ((op_not rfl) _) rfl rfl ?_
      refine GoR.op ((op_pickF rfl rfl rfl) _) rfl rfl ?_
      refine GoR.nil ?_
      refine Go1.condF rfl rfl ?_
      refine Go1.skip ?_
      refine Go1.seq ?_
      refine Go1.region ?_
      refine GoR.op ((op_move rfl) _) rfl rfl ?_
      refine GoR.op ((op_move rfl) _) rfl rfl ?_
      refine GoR.op ((op_move rfl) _) rfl rfl ?_
      refine GoR.call (op_call body21 rfl (walk_ref14_Generated hO.lt h_a0 h_a1 H)) rfl rfl ?_
      rintro v149 w146 ⟨r144, n_r144, p_r144, c_r144, vs_r144, rfl, hs147, hN148, hE145, H⟩
      have hst150 := Stp.more hO hs147 hN148
      replace hO := hst150.own
      replace h_a0 := h_a0.ch hst150.ch
      replace h_a1 := h_a1.ch hst150.ch
      replace h_a2 := h_a2.ch hst150.ch
      replace h_r91 := h_r91.ch hst150.ch
      replace h_r97 := h_r97.ch hst150.ch
      replace h_r104 := h_r104.ch hst150.ch
      replace hB := hB.trans hst150.fr
      replace hE145 := hE145.ch (Ch.assoc _ _ _ _)
      have hobt := rowlend 0 hO rfl hE145
      obtain ⟨hl152, hn153⟩ := hobt
      have hOc154 := hO.drop 0
      refine GoR.call (op_call body40 (show ([.slice p_r91 r91.length c_r91, .slice p_r144 n_r144 c_r144] : List Value) = [.slice p_r91 r91.length c_r91, .slice p_r144 r144.length c_r144] from by rw [← hn153]) (walk_ref03_Same hOc154.lt (h_r91.ch (Owns.dropCh _ _ 0)) hl152 H)) rfl rfl ?_
      rintro v159 w156 ⟨r155, rfl, hs157, H⟩
      have hst160 := Stp.same hO hs157
      replace hE145 := hE145.ch hst160.ch
      replace hO := hst160.own
      replace h_a0 := h_a0.ch hst160.ch
      replace h_a1 := h_a1.ch hst160.ch
      replace h_a2 := h_a2.ch hst160.ch
      replace h_r91 := h_r91.ch hst160.ch
      replace h_r97 := h_r97.ch hst160.ch
      replace h_r104 := h_r104.ch hst160.ch
      replace hB := hB.trans hst160.fr
      refine GoR.op ((op_move rfl) _) rfl rfl ?_
      cases r155
      ·replace H := ifn Bool.false_ne_true H
       refine GoR.pass rfl rfl ?_
       refine GoR.op ((op_pickF rfl rfl rfl) _) rfl rfl ?_
       refine GoR.op ((op_assign rfl) _) rfl rfl ?_
       refine GoR.nil ?_
       refine Go1.ret1 Try.func13 rfl ?_
       exact ⟨false, rfl, hB.same, H⟩
      ·replace H := ifp rfl H
       refine GoR.call (op_call body16 rfl (walk_law14_awake hO.lt H)) rfl rfl ?_
       rintro v165 w162 ⟨r161, rfl, hs163, H⟩
       have hst166 := Stp.same hO hs163
       replace hE145 := hE145.ch hst166.ch
       replace hO := hst166.own
       replace h_a0 := h_a0.ch hst166.ch
       replace h_a1 := h_a1.ch hst166.ch
       replace h_a2 := h_a2.ch hst166.ch
       replace h_r91 := h_r91.ch hst166.ch
       replace h_r97 := h_r97.ch hst166.ch
       replace h_r104 := h_r104.ch hst166.ch
       replace hB := hB.trans hst166.fr
       refine GoR.op ((op_pickT rfl rfl rfl) _) rfl rfl ?_
       refine GoR.op ((op_assign rfl) _) rfl rfl ?_
       refine GoR.nil ?_
       refine Go1.ret1 Try.func13 rfl ?_
       exact ⟨r161, rfl, hB.same, H⟩
  ·replace H := ifn h111 H
   refine GoR.op ((fun w => opB (op_neq rfl rfl w) (ndF h111)) _) rfl rfl ?_
   refine GoR.op ((op_move rfl) _) rfl rfl ?_
   refine GoR.pass rfl rfl ?_
   refine GoR.pass rfl rfl ?_
   refine GoR.pass rfl rfl ?_
   refine GoR.pass rfl rfl ?_
   refine GoR.op ((op_pickT rfl rfl rfl) _) rfl rfl ?_
   refine GoR.nil ?_
   refine Go1.condT rfl rfl ?_
   refine Go1.seq ?_
   refine Go1.region ?_
   refine GoR.op ((op_assign rfl) _) rfl rfl ?_
   refine GoR.nil ?_
   refine Go1.ret1 Try.func13 rfl ?_
   exact ⟨false, rfl, hB.same, H⟩
end Sg
