/- The walks: each call keeps to its plain transformer. Printed by walkgen.py. -/
import Derived.Test.YtolobiljalelgaaWMultPowers
namespace Sg
open Go Go.RowKit Go.Proofs
set_option linter.unusedVariables false
set_option maxRecDepth 100000
set_option maxHeartbeats 4000000
theorem body30 : Body Try.prog 30 := ⟨Try.f30, Try.func30, rfl, by kernel_rfl⟩
theorem walk_law14_small {A : List Nat} {w0 : World} {p_t : Option Addr} {c_t : Nat} {t : List (List Int)} {most : Int} (hA : ∀ b ∈ A, b < w0.heap.size) (h_t : ISl (Rp.sl (Rp.int .i64)) A w0 p_t c_t t) {K : Bool → Prop} (H : law14_small t most K) :
    CallsV Try.prog 30 #[.slice p_t t.length c_t, .int .i64 most] w0 (fun v w' => ∃ (r0 : Bool), v = .bool r0 ∧ Same w0 w' ∧ K r0) := by
 refine CallsV.of (l := [.slice p_t t.length c_t, .int .i64 most]) Try.func30 rfl Try.ntmps30 rfl ?_
 have hO := Owns.start hA
 have hB := Fr.refl (bl []) w0
 unfold law14_small at H
 replace h_t := h_t.ch (Ch.start A w0)
 refine Go1.seq ?_
 refine Go1.region ?_
 refine GoR.op ((op_assign rfl) _) rfl rfl ?_
 refine GoR.nil ?_
 refine Go1.seq ?_
 refine Go1.region ?_
 refine GoR.op ((op_move rfl) _) rfl rfl ?_
 refine GoR.op ((op_len Try.underlying22 rfl) _) rfl rfl ?_
 replace H := H h_t.bd
 refine GoR.op ((op_move rfl) _) rfl rfl ?_
 by_cases h1 : (t.length : Int) ≤ most
 ·replace H := ifp h1 H
  refine GoR.op ((fun w => opB (op_leq rfl rfl w) (decide_eq_true h1)) _) rfl rfl ?_
  refine GoR.op ((op_move rfl) _) rfl rfl ?_
  refine GoR.op ((op_move rfl) _) rfl rfl ?_
  refine GoR.call (op_call body26 rfl (walk_ref14_Valid hO.lt h_t H)) rfl rfl ?_
  rintro v6 w3 ⟨r2, rfl, hs4, H⟩
  have hst7 := Stp.same hO hs4
  replace hO := hst7.own
  replace h_t := h_t.ch hst7.ch
  replace hB := hB.trans hst7.fr
  refine GoR.op ((op_pickT rfl rfl rfl) _) rfl rfl ?_
  refine GoR.op ((op_assign rfl) _) rfl rfl ?_
  refine GoR.nil ?_
  refine Go1.ret1 Try.func30 rfl ?_
  exact ⟨r2, rfl, hB.same, H⟩
 ·replace H := ifn h1 H
  refine GoR.op ((fun w => opB (op_leq rfl rfl w) (decide_eq_false h1)) _) rfl rfl ?_
  refine GoR.op ((op_move rfl) _) rfl rfl ?_
  refine GoR.pass rfl rfl ?_
  refine GoR.pass rfl rfl ?_
  refine GoR.op ((op_pickF rfl rfl rfl) _) rfl rfl ?_
  refine GoR.op ((op_assign rfl) _) rfl rfl ?_
  refine GoR.nil ?_
  refine Go1.ret1 Try.func30 rfl ?_
  exact ⟨false, rfl, hB.same, H⟩
theorem body5 : Body Try.prog 5 := ⟨Try.f5, Try.func5, rfl, by kernel_rfl⟩
theorem walk_law14_MultExponents {A : List Nat} {w0 : World} {p_a0 : Option Addr} {c_a0 : Nat} {a0 : List (List Int)} {a1 : Int} {a2 : Int} {a3 : Int} (hA : ∀ b ∈ A, b < w0.heap.size) (h_a0 : ISl (Rp.sl (Rp.int .i64)) A w0 p_a0 c_a0 a0) {K : Bool → Prop} (H : law14_MultExponents a0 a1 a2 a3 K) :
    CallsV Try.prog 5 #[.slice p_a0 a0.length c_a0, .int .i64 a1, .int .u8 a2, .int .u8 a3] w0 (fun v w' => ∃ (r0 : Bool), v = .bool r0 ∧ Same w0 w' ∧ K r0) := by
 refine CallsV.of (l := [.slice p_a0 a0.length c_a0, .int .i64 a1, .int .u8 a2, .int .u8 a3]) Try.func5 rfl Try.ntmps5 rfl ?_
 have hO := Owns.start hA
 have hB := Fr.refl (bl []) w0
 unfold law14_MultExponents at H
 replace h_a0 := h_a0.ch (Ch.start A w0)
 refine Go1.seq ?_
 refine Go1.region ?_
 refine GoR.op ((op_assign rfl) _) rfl rfl ?_
 refine GoR.nil ?_
 refine Go1.seq ?_
 refine Go1.seq ?_
 refine Go1.region ?_
 refine GoR.op ((op_move rfl) _) rfl rfl ?_
 refine GoR.call (op_call body30 rfl (walk_law14_small hO.lt h_a0 H)) rfl rfl ?_
 rintro v5 w2 ⟨r1, rfl, hs3, H⟩
 have hst6 := Stp.same hO hs3
 replace hO := hst6.own
 replace h_a0 := h_a0.ch hst6.ch
 replace hB := hB.trans hst6.fr
 cases r1
 ·replace H := ifn Bool.false_ne_true H
  refine GoR.op ((op_not rfl) _) rfl rfl ?_
  refine GoR.op ((op_move rfl) _) rfl rfl ?_
  refine GoR.pass rfl rfl ?_
  refine GoR.pass rfl rfl ?_
  refine GoR.pass rfl rfl ?_
  refine GoR.pass rfl rfl ?_
  refine GoR.pass rfl rfl ?_
  refine GoR.op ((op_pickT rfl rfl rfl) _) rfl rfl ?_
  refine GoR.nil ?_
  refine Go1.condT rfl rfl ?_
  refine Go1.seq ?_
  refine Go1.region ?_
  refine GoR.call (op_call body16 rfl (walk_law14_awake hO.lt H)) rfl rfl ?_
  rintro v11 w8 ⟨r7, rfl, hs9, H⟩
  have hst12 := Stp.same hO hs9
  replace hO := hst12.own
  replace h_a0 := h_a0.ch hst12.ch
  replace hB := hB.trans hst12.fr
  refine GoR.op ((op_assign rfl) _) rfl rfl ?_
  refine GoR.nil ?_
  refine Go1.ret1 Try.func5 rfl ?_
  exact ⟨r7, rfl, hB.same, H⟩
 ·replace H := ifp rfl H
  refine GoR.op ((op_not rfl) _) rfl rfl ?_
  refine GoR.op ((op_move rfl) _) rfl rfl ?_
  refine GoR.op ((op_move rfl) _) rfl rfl ?_
  refine GoR.op ((op_move rfl) _) rfl rfl ?_
  have hobt := obuild (r := Rp.int .i64) (n := 1) (parts := [(0, .int .i64 a1)]) (vs := [.int .i64 a1]) (xs := [a1]) rfl Try.underlying23 ti3 hO (by decide) (by kernel_rfl) (Els.cons rfl rfl (Els.nil _ _ _) (by simp [mx])) rfl
  obtain ⟨w13, p14, hst15, hE16, hs17, hop18⟩ := hobt
  refine GoR.op (hop18 rfl) rfl rfl ?_
  replace hO := hst15.own
  replace h_a0 := h_a0.ch hst15.ch
  replace hB := hB.trans hst15.fr
  have hobt := rowlend 0 hO rfl hE16
  obtain ⟨hl20, hn21⟩ := hobt
  have hOc22 := hO.drop 0
  refine GoR.call (op_call body20 (show ([.slice p_a0 a0.length c_a0, .slice p14 1 1] : List Value) = [.slice p_a0 a0.length c_a0, .slice p14 ([a1]).length 1] from by rw [← hn21]) (walk_ref14_In hOc22.lt (h_a0.ch (Owns.dropCh _ _ 0)) hl20 H)) rfl rfl ?_
  rintro v27 w24 ⟨r23, rfl, hs25, H⟩
  have hst28 := Stp.same hO hs25
  replace hE16 := hE16.ch hst28.ch
  replace hO := hst28.own
  replace h_a0 := h_a0.ch hst28.ch
  replace hB := hB.trans hst28.fr
  cases r23
  ·replace H := ifn Bool.false_ne_true H
   refine GoR.op ((op_not rfl) _) rfl rfl ?_
   refine GoR.op ((op_pickF rfl rfl rfl) _) rfl rfl ?_
   refine GoR.nil ?_
   refine Go1.condT rfl rfl ?_
   refine Go1.seq ?_
   refine Go1.region ?_
   refine GoR.call (op_call body16 rfl (walk_law14_awake hO.lt H)) rfl rfl ?_
   rintro v33 w30 ⟨r29, rfl, hs31, H⟩
   have hst34 := Stp.same hO hs31
   replace hE16 := hE16.ch hst34.ch
   replace hO := hst34.own
   replace h_a0 := h_a0.ch hst34.ch
   replace hB := hB.trans hst34.fr
   refine GoR.op ((op_assign rfl) _) rfl rfl ?_
   refine GoR.nil ?_
   refine Go1.ret1 Try.func5 rfl ?_
   exact ⟨r29, rfl, hB.same, H⟩
  ·replace H := ifp rfl H
   refine GoR.op ((op_not rfl) _) rfl rfl ?_
   refine GoR.op ((op_pickF rfl rfl rfl) _) rfl rfl ?_
   refine GoR.nil ?_
   refine Go1.condF rfl rfl ?_
   refine Go1.skip ?_
   refine Go1.seq ?_
   refine Go1.region ?_
   refine GoR.op ((op_move rfl) _) rfl rfl ?_
   refine GoR.op ((op_conv Try.underlying5 Try.underlying3 rfl rfl) _) rfl rfl ?_
   obtain ⟨h35, H⟩ := H
   refine GoR.op ((op_add rfl rfl (wrap_i64 h35)) _) rfl rfl ?_
   refine GoR.op ((op_move rfl) _) rfl rfl ?_
   refine GoR.op ((op_conv Try.underlying5 Try.underlying3 rfl rfl) _) rfl rfl ?_
   obtain ⟨h36, H⟩ := H
   refine GoR.op ((op_add rfl rfl (wrap_i64 h36)) _) rfl rfl ?_
   refine GoR.op ((op_assign rfl) _) rfl rfl ?_
   refine GoR.op ((op_assign rfl) _) rfl rfl ?_
   refine GoR.nil ?_
   refine Go1.seq ?_
   refine Go1.region ?_
   refine GoR.op ((op_move rfl) _) rfl rfl ?_
   refine GoR.op ((op_move rfl) _) rfl rfl ?_
   refine GoR.op ((op_move rfl) _) rfl rfl ?_
   refine GoR.call (op_call body23 rfl (walk_mult_Power hO.lt h_a0 H)) rfl rfl ?_
   rintro v41 w38 ⟨r37, rfl, hs39, H⟩
   have hst42 := Stp.same hO hs39
   replace hE16 := hE16.ch hst42.ch
   replace hO := hst42.own
   replace h_a0 := h_a0.ch hst42.ch
   replace hB := hB.trans hst42.fr
   refine GoR.op ((op_move rfl) _) rfl rfl ?_
   refine GoR.op ((op_move rfl) _) rfl rfl ?_
   refine GoR.op ((op_move rfl) _) rfl rfl ?_
   refine GoR.call (op_call body23 rfl (walk_mult_Power hO.lt h_a0 H)) rfl rfl ?_
   rintro v47 w44 ⟨r43, rfl, hs45, H⟩
   have hst48 := Stp.same hO hs45
   replace hE16 := hE16.ch hst48.ch
   replace hO := hst48.own
   replace h_a0 := h_a0.ch hst48.ch
   replace hB := hB.trans hst48.fr
   refine GoR.op ((op_assign rfl) _) rfl rfl ?_
   refine GoR.op ((op_assign rfl) _) rfl rfl ?_
   refine GoR.nil ?_
   refine Go1.seq ?_
   refine Go1.seq ?_
   refine Go1.drawS 0 [(0, .pure), (1, .pure), (2, .pure), (3, .loud), (4, .loud), (5, .pure), (6, .pure), (7, .pure), (8, .pure), (9, .pure), (10, .stable), (11, .pure), (12, .pure), (13, .stable), (14, .pure), (15, .pure), (16, .pure), (17, .pure), (18, .pure), (19, .loud), (20, .pure), (21, .pure), (22, .pure), (23, .pure), (24, .pure), (25, .pure), (27, .pure), (28, .pure), (29, .pure), (30, .pure), (31, .pure), (26, .loud), (32, .loud), (33, .pure), (34, .pure)] mixed (by kernel_rfl) ?_
   intro w49 hs50
   have hst51 := Stp.same hO hs50
   replace hE16 := hE16.ch hst51.ch
   replace hO := hst51.own
   replace h_a0 := h_a0.ch hst51.ch
   replace hB := hB.trans hst51.fr
   refine GoQ.pure rfl (op_move rfl) rfl rfl ?_
   refine GoQ.pure rfl (op_move rfl) rfl rfl ?_
   refine GoQ.pure rfl (op_move rfl) rfl rfl ?_
   have hobt := obuild (r := Rp.int .i64) (n := 2) (parts := [(0, .int .i64 r37), (1, .int .i64 r43)]) (vs := [.int .i64 r37, .int .i64 r43]) (xs := [r37, r43]) rfl Try.underlying23 ti3 hO (by decide) (by kernel_rfl) (Els.cons rfl rfl (Els.cons rfl rfl (Els.nil _ _ _) (by simp [mx])) (by simp [mx])) rfl
   obtain ⟨w52, p53, hst54, hE55, hs56, hop57⟩ := hobt
   refine GoQ.loud rfl (hop57 rfl) hs56 rfl rfl ?_
   replace hE16 := hE16.ch hst54.ch
   replace hO := hst54.own
   replace h_a0 := h_a0.ch hst54.ch
   replace hB := hB.trans hst54.fr
   have hobt := rowlend 0 hO rfl hE55
   obtain ⟨hl59, hn60⟩ := hobt
   have hOc61 := hO.drop 0
   refine GoQ.call rfl (op_call body20 (show ([.slice p_a0 a0.length c_a0, .slice p53 2 2] : List Value) = [.slice p_a0 a0.length c_a0, .slice p53 ([r37, r43]).length 2] from by rw [← hn60]) (walk_ref14_In hOc61.lt (h_a0.ch (Owns.dropCh _ _ 0)) hl59 H)) (fun v w hr => by obtain ⟨_, _, hs, _⟩ := hr; assumption) rfl rfl ?_
   rintro v66 w63 ⟨r62, rfl, hs64, H⟩
   have hst67 := Stp.same hO hs64
   replace hE55 := hE55.ch hst67.ch
   replace hE16 := hE16.ch hst67.ch
   replace hO := hst67.own
   replace h_a0 := h_a0.ch hst67.ch
   replace hB := hB.trans hst67.fr
   cases r62
   ·replace H := ifn Bool.false_ne_true H
    refine GoQ.pure rfl (op_not rfl) rfl rfl ?_
    refine GoQ.pure rfl (op_move rfl) rfl rfl ?_
    refine GoQ.pass rfl rfl rfl ?_
    refine GoQ.pass rfl rfl rfl ?_
    refine GoQ.pass rfl rfl rfl ?_
    refine GoQ.pass rfl rfl rfl ?_
    refine GoQ.pass rfl rfl rfl ?_
    refine GoQ.pass rfl rfl rfl ?_
    refine GoQ.pass rfl rfl rfl ?_
    refine GoQ.pass rfl rfl rfl ?_
    refine GoQ.pass rfl rfl rfl ?_
    refine GoQ.pass rfl rfl rfl ?_
    refine GoQ.pass rfl rfl rfl ?_
    refine GoQ.pass rfl rfl rfl ?_
    refine GoQ.pass rfl rfl rfl ?_
    refine GoQ.pass rfl rfl rfl ?_
    refine GoQ.pure rfl (op_pickT rfl rfl rfl) rfl rfl ?_
    refine GoQ.pure rfl (op_move rfl) rfl rfl ?_
    refine GoQ.pass rfl rfl rfl ?_
    refine GoQ.pass rfl rfl rfl ?_
    refine GoQ.pass rfl rfl rfl ?_
    refine GoQ.pass rfl rfl rfl ?_
    refine GoQ.pass rfl rfl rfl ?_
    refine GoQ.pass rfl rfl rfl ?_
    refine GoQ.pass rfl rfl rfl ?_
    refine GoQ.pass rfl rfl rfl ?_
    refine GoQ.pass rfl rfl rfl ?_
    refine GoQ.pass rfl rfl rfl ?_
    refine GoQ.pass rfl rfl rfl ?_
    refine GoQ.pure rfl (op_pickT rfl rfl rfl) rfl rfl ?_
    refine GoQ.nil ?_
    refine Go1.condT rfl rfl ?_
    refine Go1.seq ?_
    refine Go1.region ?_
    refine GoR.op ((op_assign rfl) _) rfl rfl ?_
    refine GoR.nil ?_
    refine Go1.ret1 Try.func5 rfl ?_
    exact ⟨false, rfl, hB.same, H⟩
   ·replace H := ifp rfl H
    refine GoQ.pure rfl (op_not rfl) rfl rfl ?_
    refine GoQ.pure rfl (op_move rfl) rfl rfl ?_
    refine GoQ.pure rfl (op_move rfl) rfl rfl ?_
    refine GoQ.pure rfl (op_move rfl) rfl rfl ?_
    obtain ⟨h68, H⟩ := H
    obtain ⟨h69, H⟩ := H
    refine GoQ.pure rfl (op_index Try.underlying22 ti23 rfl rfl h68 h69 (h_a0.some_ h68 h69)) rfl rfl ?_
    have hobt := ldSl h_a0 h68 h69
    obtain ⟨p70, c71, hi72, hl73⟩ := hobt
    refine GoQ.stable rfl (hl73 Try.underlying23 rfl rfl) rfl rfl ?_
    refine GoQ.pure rfl (op_move rfl) rfl rfl ?_
    obtain ⟨h74, H⟩ := H
    obtain ⟨h75, H⟩ := H
    refine GoQ.pure rfl (op_index Try.underlying23 ti3 rfl rfl h74 h75 (hi72.some_ h74 h75)) rfl rfl ?_
    refine GoQ.stable rfl (ldInt hi72 h74 h75 Try.underlying3 rfl rfl) rfl rfl ?_
    refine GoQ.pure rfl (op_move rfl) rfl rfl ?_
    refine GoQ.pure rfl (op_move rfl) rfl rfl ?_
    refine GoQ.pure rfl (op_move rfl) rfl rfl ?_
    refine GoQ.pure rfl (op_move rfl) rfl rfl ?_
    obtain ⟨h76, H⟩ := H
    refine GoQ.pure rfl (op_add rfl rfl (wrap_i64 h76)) rfl rfl ?_
    refine GoQ.call rfl (op_call body23 rfl (walk_mult_Power hO.lt h_a0 H)) (fun v w hr => by obtain ⟨_, _, hs, _⟩ := hr; assumption) rfl rfl ?_
    rintro v81 w78 ⟨r77, rfl, hs79, H⟩
    have hst82 := Stp.same hO hs79
    replace hE55 := hE55.ch hst82.ch
    replace hE16 := hE16.ch hst82.ch
    replace hO := hst82.own
    replace h_a0 := h_a0.ch hst82.ch
    replace hi72 := hi72.ch hst82.ch
    replace hB := hB.trans hst82.fr
    by_cases h83 : (ix (ix a0 r37) r43) = r77
    ·replace H := ifp h83 H
     refine GoQ.pure rfl (fun w => opB (op_neq rfl rfl w) (ndT h83)) rfl rfl ?_
     refine GoQ.pure rfl (op_pickF rfl rfl rfl) rfl rfl ?_
     refine GoQ.pure rfl (op_move rfl) rfl rfl ?_
     refine GoQ.pure rfl (op_move rfl) rfl rfl ?_
     refine GoQ.pure rfl (op_move rfl) rfl rfl ?_
     refine GoQ.pure rfl (op_move rfl) rfl rfl ?_
     refine GoQ.pure rfl (op_move rfl) rfl rfl ?_
     refine GoQ.pure rfl (op_move rfl) rfl rfl ?_
     refine GoQ.pure rfl (op_move rfl) rfl rfl ?_
     refine GoQ.pure rfl (op_move rfl) rfl rfl ?_
     obtain ⟨h84, H⟩ := H
     refine GoQ.pure rfl (op_mul rfl rfl (wrap_i64 h84)) rfl rfl ?_
     refine GoQ.call rfl (op_call body23 rfl (walk_mult_Power hO.lt h_a0 H)) (fun v w hr => by obtain ⟨_, _, hs, _⟩ := hr; assumption) rfl rfl ?_
     rintro v89 w86 ⟨r85, rfl, hs87, H⟩
     have hst90 := Stp.same hO hs87
     replace hE55 := hE55.ch hst90.ch
     replace hE16 := hE16.ch hst90.ch
     replace hO := hst90.own
     replace h_a0 := h_a0.ch hst90.ch
     replace hi72 := hi72.ch hst90.ch
     replace hB := hB.trans hst90.fr
     refine GoQ.call rfl (op_call body23 rfl (walk_mult_Power hO.lt h_a0 H)) (fun v w hr => by obtain ⟨_, _, hs, _⟩ := hr; assumption) rfl rfl ?_
     rintro v95 w92 ⟨r91, rfl, hs93, H⟩
     have hst96 := Stp.same hO hs93
     replace hE55 := hE55.ch hst96.ch
     replace hE16 := hE16.ch hst96.ch
     replace hO := hst96.own
     replace h_a0 := h_a0.ch hst96.ch
     replace hi72 := hi72.ch hst96.ch
     replace hB := hB.trans hst96.fr
     by_cases h97 : r85 = r91
     ·replace H := ifp h97 H
      refine GoQ.pure rfl (fun w => opB (op_neq rfl rfl w) (ndT h97)) rfl rfl ?_
      refine GoQ.pure rfl (op_pickF rfl rfl rfl) rfl rfl ?_
      refine GoQ.nil ?_
      refine Go1.condF rfl rfl ?_
      refine Go1.skip ?_
      refine Go1.seq ?_
      refine Go1.region ?_
      refine GoR.op ((op_move rfl) _) rfl rfl ?_
      refine GoR.op ((op_move rfl) _) rfl rfl ?_
      refine GoR.call (op_call body25 rfl (walk_mult_IndexPeriod hO.lt h_a0 H)) rfl rfl ?_
      rintro v103 w100 ⟨r98, r99, rfl, hs101, H⟩
      have hst104 := Stp.same hO hs101
      replace hE55 := hE55.ch hst104.ch
      replace hE16 := hE16.ch hst104.ch
      replace hO := hst104.own
      replace h_a0 := h_a0.ch hst104.ch
      replace hi72 := hi72.ch hst104.ch
      replace hB := hB.trans hst104.fr
      refine GoR.op ((op_move rfl) _) rfl rfl ?_
      refine GoR.op ((op_extract rfl rfl) _) rfl rfl ?_
      refine GoR.op ((op_extract rfl rfl) _) rfl rfl ?_
      refine GoR.op ((op_assign rfl) _) rfl rfl ?_
      refine GoR.op ((op_assign rfl) _) rfl rfl ?_
      refine GoR.nil ?_
      refine Go1.seq ?_
      refine Go1.region ?_
      refine GoR.op ((op_move rfl) _) rfl rfl ?_
      refine GoR.op ((op_move rfl) _) rfl rfl ?_
      refine GoR.call (op_call body24 rfl (walk_mult_Omega hO.lt h_a0 H)) rfl rfl ?_
      rintro v109 w106 ⟨r105, rfl, hs107, H⟩
      have hst110 := Stp.same hO hs107
      replace hE55 := hE55.ch hst110.ch
      replace hE16 := hE16.ch hst110.ch
      replace hO := hst110.own
      replace h_a0 := h_a0.ch hst110.ch
      replace hi72 := hi72.ch hst110.ch
      replace hB := hB.trans hst110.fr
      refine GoR.op ((op_assign rfl) _) rfl rfl ?_
      refine GoR.nil ?_
      refine Go1.seq ?_
      refine Go1.drawS 0 [(0, .pure), (1, .pure), (2, .pure), (3, .pure), (4, .pure), (5, .pure), (6, .pure), (7, .pure), (8, .pure), (9, .pure), (10, .pure), (11, .pure), (13, .pure), (14, .pure), (15, .pure), (16, .pure), (17, .pure), (18, .pure), (19, .pure), (12, .loud), (20, .loud), (21, .pure), (22, .pure), (23, .pure), (24, .pure), (25, .pure), (26, .loud), (27, .loud), (28, .pure), (29, .pure), (30, .pure), (31, .pure), (32, .pure), (33, .stable), (34, .pure), (35, .pure), (36, .stable), (37, .pure), (38, .pure), (39, .pure), (40, .pure), (41, .pure), (42, .pure), (43, .pure), (44, .stable), (45, .pure), (46, .pure), (47, .stable), (48, .pure), (49, .pure), (50, .pure), (51, .stable), (52, .pure), (53, .pure), (54, .stable), (55, .pure), (56, .pure), (57, .pure), (58, .pure), (59, .pure), (60, .pure), (61, .pure), (62, .pure), (64, .pure), (63, .loud), (65, .pure), (66, .pure), (67, .pure), (68, .loud), (69, .pure), (70, .pure)] mixed (by kernel_rfl) ?_
      intro w111 hs112
      have hst113 := Stp.same hO hs112
      replace hE55 := hE55.ch hst113.ch
      replace hE16 := hE16.ch hst113.ch
      replace hO := hst113.own
      replace h_a0 := h_a0.ch hst113.ch
      replace hi72 := hi72.ch hst113.ch
      replace hB := hB.trans hst113.fr
      refine GoQ.pure rfl (op_move rfl) rfl rfl ?_
      by_cases h114 : (0 : Int) < r98
      ·replace H := ifp h114 H
       refine GoQ.pure rfl (fun w => opB (op_gtr rfl rfl w) (decide_eq_true h114)) rfl rfl ?_
       refine GoQ.pure rfl (op_move rfl) rfl rfl ?_
       refine GoQ.pure rfl (op_move rfl) rfl rfl ?_
       by_cases h115 : (0 : Int) < r99
       ·replace H := ifp h115 H
        refine GoQ.pure rfl (fun w => opB (op_gtr rfl rfl w) (decide_eq_true h115)) rfl rfl ?_
        refine GoQ.pure rfl (op_pickT rfl rfl rfl) rfl rfl ?_
        refine GoQ.pure rfl (op_move rfl) rfl rfl ?_
        refine GoQ.pure rfl (op_move rfl) rfl rfl ?_
        refine GoQ.pure rfl (op_move rfl) rfl rfl ?_
        refine GoQ.pure rfl (op_move rfl) rfl rfl ?_
        refine GoQ.pure rfl (op_move rfl) rfl rfl ?_
        obtain ⟨h116, H⟩ := H
        refine GoQ.pure rfl (op_add rfl rfl (wrap_i64 h116)) rfl rfl ?_
        refine GoQ.pure rfl (op_move rfl) rfl rfl ?_
        refine GoQ.pure rfl (op_move rfl) rfl rfl ?_
        refine GoQ.pure rfl (op_move rfl) rfl rfl ?_
        refine GoQ.pure rfl (op_move rfl) rfl rfl ?_
        obtain ⟨h117, H⟩ := H
        refine GoQ.pure rfl (op_add rfl rfl (wrap_i64 h117)) rfl rfl ?_
        refine GoQ.pure rfl (op_move rfl) rfl rfl ?_
        obtain ⟨h118, H⟩ := H
        refine GoQ.pure rfl (op_add rfl rfl (wrap_i64 h118)) rfl rfl ?_
        refine GoQ.call rfl (op_call body23 rfl (walk_mult_Power hO.lt h_a0 H)) (fun v w hr => by obtain ⟨_, _, hs, _⟩ := hr; assumption) rfl rfl ?_
        rintro v123 w120 ⟨r119, rfl, hs121, H⟩
        have hst124 := Stp.same hO hs121
        replace hE55 := hE55.ch hst124.ch
        replace hE16 := hE16.ch hst124.ch
        replace hO := hst124.own
        replace h_a0 := h_a0.ch hst124.ch
        replace hi72 := hi72.ch hst124.ch
        replace hB := hB.trans hst124.fr
        refine GoQ.call rfl (op_call body23 rfl (walk_mult_Power hO.lt h_a0 H)) (fun v w hr => by obtain ⟨_, _, hs, _⟩ := hr; assumption) rfl rfl ?_
        rintro v129 w126 ⟨r125, rfl, hs127, H⟩
        have hst130 := Stp.same hO hs127
        replace hE55 := hE55.ch hst130.ch
        replace hE16 := hE16.ch hst130.ch
        replace hO := hst130.own
        replace h_a0 := h_a0.ch hst130.ch
        replace hi72 := hi72.ch hst130.ch
        replace hB := hB.trans hst130.fr
        by_cases h131 : r119 = r125
        ·replace H := ifp h131 H
         refine GoQ.pure rfl (fun w => opB (op_eql rfl rfl w) (decide_eq_true h131)) rfl rfl ?_
         refine GoQ.pure rfl (op_pickT rfl rfl rfl) rfl rfl ?_
         refine GoQ.pure rfl (op_move rfl) rfl rfl ?_
         refine GoQ.pure rfl (op_move rfl) rfl rfl ?_
         refine GoQ.pure rfl (op_move rfl) rfl rfl ?_
         have hobt := obuild (r := Rp.int .i64) (n := 1) (parts := [(0, .int .i64 r105)]) (vs := [.int .i64 r105]) (xs := [r105]) rfl Try.underlying23 ti3 hO (by decide) (by kernel_rfl) (Els.cons rfl rfl (Els.nil _ _ _) (by simp [mx])) rfl
         obtain ⟨w132, p133, hst134, hE135, hs136, hop137⟩ := hobt
         refine GoQ.loud rfl (hop137 rfl) hs136 rfl rfl ?_
         replace hE55 := hE55.ch hst134.ch
         replace hE16 := hE16.ch hst134.ch
         replace hO := hst134.own
         replace h_a0 := h_a0.ch hst134.ch
         replace hi72 := hi72.ch hst134.ch
         replace hB := hB.trans hst134.fr
         have hobt := rowlend 0 hO rfl hE135
         obtain ⟨hl139, hn140⟩ := hobt
         have hOc141 := hO.drop 0
         refine GoQ.call rfl (op_call body20 (show ([.slice p_a0 a0.length c_a0, .slice p133 1 1] : List Value) = [.slice p_a0 a0.length c_a0, .slice p133 ([r105]).length 1] from by rw [← hn140]) (walk_ref14_In hOc141.lt (h_a0.ch (Owns.dropCh _ _ 0)) hl139 H)) (fun v w hr => by obtain ⟨_, _, hs, _⟩ := hr; assumption) rfl rfl ?_
         rintro v146 w143 ⟨r142, rfl, hs144, H⟩
         have hst147 := Stp.same hO hs144
         replace hE135 := hE135.ch hst147.ch
         replace hE55 := hE55.ch hst147.ch
         replace hE16 := hE16.ch hst147.ch
         replace hO := hst147.own
         replace h_a0 := h_a0.ch hst147.ch
         replace hi72 := hi72.ch hst147.ch
         replace hB := hB.trans hst147.fr
         refine GoQ.pure rfl (op_pickT rfl rfl rfl) rfl rfl ?_
         refine GoQ.pure rfl (op_move rfl) rfl rfl ?_
         cases r142
         ·replace H := ifn Bool.false_ne_true H
          refine GoQ.pass rfl rfl rfl ?_
          refine GoQ.pass rfl rfl rfl ?_
          refine GoQ.pass rfl rfl rfl ?_
          refine GoQ.pass rfl rfl rfl ?_
          refine GoQ.pass rfl rfl rfl ?_
          refine GoQ.pass rfl rfl rfl ?_
          refine GoQ.pass rfl rfl rfl ?_
          refine GoQ.pass rfl rfl rfl ?_
          refine GoQ.pass rfl rfl rfl ?_
          refine GoQ.pure rfl (op_pickF rfl rfl rfl) rfl rfl ?_
          refine GoQ.pure rfl (op_move rfl) rfl rfl ?_
          refine GoQ.pass rfl rfl rfl ?_
          refine GoQ.pass rfl rfl rfl ?_
          refine GoQ.pass rfl rfl rfl ?_
          refine GoQ.pass rfl rfl rfl ?_
          refine GoQ.pass rfl rfl rfl ?_
          refine GoQ.pass rfl rfl rfl ?_
          refine GoQ.pass rfl rfl rfl ?_
          refine GoQ.pass rfl rfl rfl ?_
          refine GoQ.pass rfl rfl rfl ?_
          refine GoQ.pass rfl rfl rfl ?_
          refine GoQ.pass rfl rfl rfl ?_
          refine GoQ.pass rfl rfl rfl ?_
          refine GoQ.pass rfl rfl rfl ?_
          refine GoQ.pass rfl rfl rfl ?_
          refine GoQ.pass rfl rfl rfl ?_
          refine GoQ.pure rfl (op_pickF rfl rfl rfl) rfl rfl ?_
          refine GoQ.pure rfl (op_move rfl) rfl rfl ?_
          refine GoQ.pass rfl rfl rfl ?_
          refine GoQ.pass rfl rfl rfl ?_
          refine GoQ.pass rfl rfl rfl ?_
          refine GoQ.pass rfl rfl rfl ?_
          refine GoQ.pass rfl rfl rfl ?_
          refine GoQ.pass rfl rfl rfl ?_
          refine GoQ.pass rfl rfl rfl ?_
          refine GoQ.pass rfl rfl rfl ?_
          refine GoQ.pure rfl (op_pickF rfl rfl rfl) rfl rfl ?_
          refine GoQ.pure rfl (op_move rfl) rfl rfl ?_
          refine GoQ.pass rfl rfl rfl ?_
          refine GoQ.pure rfl (op_pickF rfl rfl rfl) rfl rfl ?_
          refine GoQ.pure rfl (op_assign rfl) rfl rfl ?_
          refine GoQ.nil ?_
          refine Go1.ret1 Try.func5 rfl ?_
          exact ⟨false, rfl, hB.same, H⟩
         ·replace H := ifp rfl H
          refine GoQ.pure rfl (op_move rfl) rfl rfl ?_
          refine GoQ.pure rfl (op_move rfl) rfl rfl ?_
          obtain ⟨h148, H⟩ := H
          obtain ⟨h149, H⟩ := H
          refine GoQ.pure rfl (op_index Try.underlying22 ti23 rfl rfl h148 h149 (h_a0.some_ h148 h149)) rfl rfl ?_
          have hobt := ldSl h_a0 h148 h149
          obtain ⟨p150, c151, hi152, hl153⟩ := hobt
          refine GoQ.stable rfl (hl153 Try.underlying23 rfl rfl) rfl rfl ?_
          refine GoQ.pure rfl (op_move rfl) rfl rfl ?_
          obtain ⟨h154, H⟩ := H
          obtain ⟨h155, H⟩ := H
          refine GoQ.pure rfl (op_index Try.underlying23 ti3 rfl rfl h154 h155 (hi152.some_ h154 h155)) rfl rfl ?_
          refine GoQ.stable rfl (ldInt hi152 h154 h155 Try.underlying3 rfl rfl) rfl rfl ?_
          refine GoQ.pure rfl (op_move rfl) rfl rfl ?_
          by_cases h156 : (ix (ix a0 r105) r105) = r105
          ·replace H := ifp h156 H
           refine GoQ.pure rfl (fun w => opB (op_eql rfl rfl w) (decide_eq_true h156)) rfl rfl ?_
           refine GoQ.pure rfl (op_pickT rfl rfl rfl) rfl rfl ?_
           refine GoQ.pure rfl (op_move rfl) rfl rfl ?_
           refine GoQ.pure rfl (op_move rfl) rfl rfl ?_
           refine GoQ.pure rfl (op_move rfl) rfl rfl ?_
           obtain ⟨h157, H⟩ := H
           obtain ⟨h158, H⟩ := H
           refine GoQ.pure rfl (op_index Try.underlying22 ti23 rfl rfl h157 h158 (h_a0.some_ h157 h158)) rfl rfl ?_
           have hobt := ldSl h_a0 h157 h158
           obtain ⟨p159, c160, hi161, hl162⟩ := hobt
           refine GoQ.stable rfl (hl162 Try.underlying23 rfl rfl) rfl rfl ?_
           refine GoQ.pure rfl (op_move rfl) rfl rfl ?_
           obtain ⟨h163, H⟩ := H
           obtain ⟨h164, H⟩ := H
           refine GoQ.pure rfl (op_index Try.underlying23 ti3 rfl rfl h163 h164 (hi161.some_ h163 h164)) rfl rfl ?_
           refine GoQ.stable rfl (ldInt hi161 h163 h164 Try.underlying3 rfl rfl) rfl rfl ?_
           refine GoQ.pure rfl (op_move rfl) rfl rfl ?_
           refine GoQ.pure rfl (op_move rfl) rfl rfl ?_
           obtain ⟨h165, H⟩ := H
           obtain ⟨h166, H⟩ := H
           refine GoQ.pure rfl (op_index Try.underlying22 ti23 rfl rfl h165 h166 (h_a0.some_ h165 h166)) rfl rfl ?_
           have hobt := ldSl h_a0 h165 h166
           obtain ⟨p167, c168, hi169, hl170⟩ := hobt
           refine GoQ.stable rfl (hl170 Try.underlying23 rfl rfl) rfl rfl ?_
           refine GoQ.pure rfl (op_move rfl) rfl rfl ?_
           obtain ⟨h171, H⟩ := H
           obtain ⟨h172, H⟩ := H
           refine GoQ.pure rfl (op_index Try.underlying23 ti3 rfl rfl h171 h172 (hi169.some_ h171 h172)) rfl rfl ?_
           refine GoQ.stable rfl (ldInt hi169 h171 h172 Try.underlying3 rfl rfl) rfl rfl ?_
           by_cases h173 : (ix (ix a0 r105) a1) = (ix (ix a0 a1) r105)
           ·replace H := ifp h173 H
            refine GoQ.pure rfl (fun w => opB (op_eql rfl rfl w) (decide_eq_true h173)) rfl rfl ?_
            refine GoQ.pure rfl (op_pickT rfl rfl rfl) rfl rfl ?_
            refine GoQ.pure rfl (op_move rfl) rfl rfl ?_
            refine GoQ.pure rfl (op_move rfl) rfl rfl ?_
            refine GoQ.pure rfl (op_move rfl) rfl rfl ?_
            refine GoQ.pure rfl (op_move rfl) rfl rfl ?_
            refine GoQ.pure rfl (op_move rfl) rfl rfl ?_
            obtain ⟨h174, H⟩ := H
            refine GoQ.pure rfl (op_mul rfl rfl (wrap_i64 h174)) rfl rfl ?_
            refine GoQ.pure rfl (op_move rfl) rfl rfl ?_
            refine GoQ.call rfl (op_call body23 rfl (walk_mult_Power hO.lt h_a0 H)) (fun v w hr => by obtain ⟨_, _, hs, _⟩ := hr; assumption) rfl rfl ?_
            rintro v179 w176 ⟨r175, rfl, hs177, H⟩
            have hst180 := Stp.same hO hs177
            replace hE135 := hE135.ch hst180.ch
            replace hE55 := hE55.ch hst180.ch
            replace hE16 := hE16.ch hst180.ch
            replace hO := hst180.own
            replace h_a0 := h_a0.ch hst180.ch
            replace hi72 := hi72.ch hst180.ch
            replace hi152 := hi152.ch hst180.ch
            replace hi161 := hi161.ch hst180.ch
            replace hi169 := hi169.ch hst180.ch
            replace hB := hB.trans hst180.fr
            by_cases h181 : r175 = r105
            ·replace H := ifp h181 H
             refine GoQ.pure rfl (fun w => opB (op_eql rfl rfl w) (decide_eq_true h181)) rfl rfl ?_
             refine GoQ.pure rfl (op_pickT rfl rfl rfl) rfl rfl ?_
             refine GoQ.pure rfl (op_move rfl) rfl rfl ?_
             refine GoQ.call rfl (op_call body16 rfl (walk_law14_awake hO.lt H)) (fun v w hr => by obtain ⟨_, _, hs, _⟩ := hr; assumption) rfl rfl ?_
             rintro v186 w183 ⟨r182, rfl, hs184, H⟩
             have hst187 := Stp.same hO hs184
             replace hE135 := hE135.ch hst187.ch
             replace hE55 := hE55.ch hst187.ch
             replace hE16 := hE16.ch hst187.ch
             replace hO := hst187.own
             replace h_a0 := h_a0.ch hst187.ch
             replace hi72 := hi72.ch hst187.ch
             replace hi152 := hi152.ch hst187.ch
             replace hi161 := hi161.ch hst187.ch
             replace hi169 := hi169.ch hst187.ch
             replace hB := hB.trans hst187.fr
             refine GoQ.pure rfl (op_pickT rfl rfl rfl) rfl rfl ?_
             refine GoQ.pure rfl (op_assign rfl) rfl rfl ?_
             refine GoQ.nil ?_
             refine Go1.ret1 Try.func5 rfl ?_
             exact ⟨r182, rfl, hB.same, H⟩
            ·replace H := ifn h181 H
             refine GoQ.pure rfl (fun w => opB (op_eql rfl rfl w) (decide_eq_false h181)) rfl rfl ?_
             refine GoQ.pure rfl (op_pickT rfl rfl rfl) rfl rfl ?_
             refine GoQ.pure rfl (op_move rfl) rfl rfl ?_
             refine GoQ.pass rfl rfl rfl ?_
             refine GoQ.pure rfl (op_pickF rfl rfl rfl) rfl rfl ?_
             refine GoQ.pure rfl (op_assign rfl) rfl rfl ?_
             refine GoQ.nil ?_
             refine Go1.ret1 Try.func5 rfl ?_
             exact ⟨false, rfl, hB.same, H⟩
           ·replace H := ifn h173 H
            refine GoQ.pure rfl (fun w => opB (op_eql rfl rfl w) (decide_eq_false h173)) rfl rfl ?_
            refine GoQ.pure rfl (op_pickT rfl rfl rfl) rfl rfl ?_
            refine GoQ.pure rfl (op_move rfl) rfl rfl ?_
            refine GoQ.pass rfl rfl rfl ?_
            refine GoQ.pass rfl rfl rfl ?_
            refine GoQ.pass rfl rfl rfl ?_
            refine GoQ.pass rfl rfl rfl ?_
            refine GoQ.pass rfl rfl rfl ?_
            refine GoQ.pass rfl rfl rfl ?_
            refine GoQ.pass rfl rfl rfl ?_
            refine GoQ.pass rfl rfl rfl ?_
            refine GoQ.pure rfl (op_pickF rfl rfl rfl) rfl rfl ?_
            refine GoQ.pure rfl (op_move rfl) rfl rfl ?_
            refine GoQ.pass rfl rfl rfl ?_
            refine GoQ.pure rfl (op_pickF rfl rfl rfl) rfl rfl ?_
            refine GoQ.pure rfl (op_assign rfl) rfl rfl ?_
            refine GoQ.nil ?_
            refine Go1.ret1 Try.func5 rfl ?_
            exact ⟨false, rfl, hB.same, H⟩
          ·replace H := ifn h156 H
           refine GoQ.pure rfl (fun w => opB (op_eql rfl rfl w) (decide_eq_false h156)) rfl rfl ?_
           refine GoQ.pure rfl (op_pickT rfl rfl rfl) rfl rfl ?_
           refine GoQ.pure rfl (op_move rfl) rfl rfl ?_
           refine GoQ.pass rfl rfl rfl ?_
           refine GoQ.pass rfl rfl rfl ?_
           refine GoQ.pass rfl rfl rfl ?_
           refine GoQ.pass rfl rfl rfl ?_
           refine GoQ.pass rfl rfl rfl ?_
           refine GoQ.pass rfl rfl rfl ?_
           refine GoQ.pass rfl rfl rfl ?_
           refine GoQ.pass rfl rfl rfl ?_
           refine GoQ.pass rfl rfl rfl ?_
           refine GoQ.pass rfl rfl rfl ?_
           refine GoQ.pass rfl rfl rfl ?_
           refine GoQ.pass rfl rfl rfl ?_
           refine GoQ.pass rfl rfl rfl ?_
           refine GoQ.pass rfl rfl rfl ?_
           refine GoQ.pass rfl rfl rfl ?_
           refine GoQ.pure rfl (op_pickF rfl rfl rfl) rfl rfl ?_
           refine GoQ.pure rfl (op_move rfl) rfl rfl ?_
           refine GoQ.pass rfl rfl rfl ?_
           refine GoQ.pass rfl rfl rfl ?_
           refine GoQ.pass rfl rfl rfl ?_
           refine GoQ.pass rfl rfl rfl ?_
           refine GoQ.pass rfl rfl rfl ?_
           refine GoQ.pass rfl rfl rfl ?_
           refine GoQ.pass rfl rfl rfl ?_
           refine GoQ.pass rfl rfl rfl ?_
           refine GoQ.pure rfl (op_pickF rfl rfl rfl) rfl rfl ?_
           refine GoQ.pure rfl (op_move rfl) rfl rfl ?_
           refine GoQ.pass rfl rfl rfl ?_
           refine GoQ.pure rfl (op_pickF rfl rfl rfl) rfl rfl ?_
           refine GoQ.pure rfl (op_assign rfl) rfl rfl ?_
           refine GoQ.nil ?_
           refine Go1.ret1 Try.func5 rfl ?_
           exact ⟨false, rfl, hB.same, H⟩
        ·replace H := ifn h131 H
         refine GoQ.pure rfl (fun w => opB (op_eql rfl rfl w) (decide_eq_false h131)) rfl rfl ?_
         refine GoQ.pure rfl (op_pickT rfl rfl rfl) rfl rfl ?_
         refine GoQ.pure rfl (op_move rfl) rfl rfl ?_
         refine GoQ.pass rfl rfl rfl ?_
         refine GoQ.pass rfl rfl rfl ?_
         refine GoQ.pass rfl rfl rfl ?_
         refine GoQ.pass rfl rfl rfl ?_
         refine GoQ.pure rfl (op_pickF rfl rfl rfl) rfl rfl ?_
         refine GoQ.pure rfl (op_move rfl) rfl rfl ?_
         refine GoQ.pass rfl rfl rfl ?_
         refine GoQ.pass rfl rfl rfl ?_
         refine GoQ.pass rfl rfl rfl ?_
         refine GoQ.pass rfl rfl rfl ?_
         refine GoQ.pass rfl rfl rfl ?_
         refine GoQ.pass rfl rfl rfl ?_
         refine GoQ.pass rfl rfl rfl ?_
         refine GoQ.pass rfl rfl rfl ?_
         refine GoQ.pass rfl rfl rfl ?_
         refine GoQ.pure rfl (op_pickF rfl rfl rfl) rfl rfl ?_
         refine GoQ.pure rfl (op_move rfl) rfl rfl ?_
         refine GoQ.pass rfl rfl rfl ?_
         refine GoQ.pass rfl rfl rfl ?_
         refine GoQ.pass rfl rfl rfl ?_
         refine GoQ.pass rfl rfl rfl ?_
         refine GoQ.pass rfl rfl rfl ?_
         refine GoQ.pass rfl rfl rfl ?_
         refine GoQ.pass rfl rfl rfl ?_
         refine GoQ.pass rfl rfl rfl ?_
         refine GoQ.pass rfl rfl rfl ?_
         refine GoQ.pass rfl rfl rfl ?_
         refine GoQ.pass rfl rfl rfl ?_
         refine GoQ.pass rfl rfl rfl ?_
         refine GoQ.pass rfl rfl rfl ?_
         refine GoQ.pass rfl rfl rfl ?_
         refine GoQ.pass rfl rfl rfl ?_
         refine GoQ.pure rfl (op_pickF rfl rfl rfl) rfl rfl ?_
         refine GoQ.pure rfl (op_move rfl) rfl rfl ?_
         refine GoQ.pass rfl rfl rfl ?_
         refine GoQ.pass rfl rfl rfl ?_
         refine GoQ.pass rfl rfl rfl ?_
         refine GoQ.pass rfl rfl rfl ?_
         refine GoQ.pass rfl rfl rfl ?_
         refine GoQ.pass rfl rfl rfl ?_
         refine GoQ.pass rfl rfl rfl ?_
         refine GoQ.pass rfl rfl rfl ?_
         refine GoQ.pure rfl (op_pickF rfl rfl rfl) rfl rfl ?_
         refine GoQ.pure rfl (op_move rfl) rfl rfl ?_
         refine GoQ.pass rfl rfl rfl ?_
         refine GoQ.pure rfl (op_pickF rfl rfl rfl) rfl rfl ?_
         refine GoQ.pure rfl (op_assign rfl) rfl rfl ?_
         refine GoQ.nil ?_
         refine Go1.ret1 Try.func5 rfl ?_
         exact ⟨false, rfl, hB.same, H⟩
       ·replace H := ifn h115 H
        refine GoQ.pure rfl (fun w => opB (op_gtr rfl rfl w) (decide_eq_false h115)) rfl rfl ?_
        refine GoQ.pure rfl (op_pickT rfl rfl rfl) rfl rfl ?_
        refine GoQ.pure rfl (op_move rfl) rfl rfl ?_
        refine GoQ.pass rfl rfl rfl ?_
        refine GoQ.pass rfl rfl rfl ?_
        refine GoQ.pass rfl rfl rfl ?_
        refine GoQ.pass rfl rfl rfl ?_
        refine GoQ.pass rfl rfl rfl ?_
        refine GoQ.pass rfl rfl rfl ?_
        refine GoQ.pass rfl rfl rfl ?_
        refine GoQ.pass rfl rfl rfl ?_
        refine GoQ.pass rfl rfl rfl ?_
        refine GoQ.pass rfl rfl rfl ?_
        refine GoQ.pass rfl rfl rfl ?_
        refine GoQ.pass rfl rfl rfl ?_
        refine GoQ.pass rfl rfl rfl ?_
        refine GoQ.pass rfl rfl rfl ?_
        refine GoQ.pass rfl rfl rfl ?_
        refine GoQ.pure rfl (op_pickF rfl rfl rfl) rfl rfl ?_
        refine GoQ.pure rfl (op_move rfl) rfl rfl ?_
        refine GoQ.pass rfl rfl rfl ?_
        refine GoQ.pass rfl rfl rfl ?_
        refine GoQ.pass rfl rfl rfl ?_
        refine GoQ.pass rfl rfl rfl ?_
        refine GoQ.pure rfl (op_pickF rfl rfl rfl) rfl rfl ?_
        refine GoQ.pure rfl (op_move rfl) rfl rfl ?_
        refine GoQ.pass rfl rfl rfl ?_
        refine GoQ.pass rfl rfl rfl ?_
        refine GoQ.pass rfl rfl rfl ?_
        refine GoQ.pass rfl rfl rfl ?_
        refine GoQ.pass rfl rfl rfl ?_
        refine GoQ.pass rfl rfl rfl ?_
        refine GoQ.pass rfl rfl rfl ?_
        refine GoQ.pass rfl rfl rfl ?_
        refine GoQ.pass rfl rfl rfl ?_
        refine GoQ.pure rfl (op_pickF rfl rfl rfl) rfl rfl ?_
        refine GoQ.pure rfl (op_move rfl) rfl rfl ?_
        refine GoQ.pass rfl rfl rfl ?_
        refine GoQ.pass rfl rfl rfl ?_
        refine GoQ.pass rfl rfl rfl ?_
        refine GoQ.pass rfl rfl rfl ?_
        refine GoQ.pass rfl rfl rfl ?_
        refine GoQ.pass rfl rfl rfl ?_
        refine GoQ.pass rfl rfl rfl ?_
        refine GoQ.pass rfl rfl rfl ?_
        refine GoQ.pass rfl rfl rfl ?_
        refine GoQ.pass rfl rfl rfl ?_
        refine GoQ.pass rfl rfl rfl ?_
        refine GoQ.pass rfl rfl rfl ?_
        refine GoQ.pass rfl rfl rfl ?_
        refine GoQ.pass rfl rfl rfl ?_
        refine GoQ.pass rfl rfl rfl ?_
        refine GoQ.pure rfl (op_pickF rfl rfl rfl) rfl rfl ?_
        refine GoQ.pure rfl (op_move rfl) rfl rfl ?_
        refine GoQ.pass rfl rfl rfl ?_
        refine GoQ.pass rfl rfl rfl ?_
        refine GoQ.pass rfl rfl rfl ?_
        refine GoQ.pass rfl rfl rfl ?_
        refine GoQ.pass rfl rfl rfl ?_
        refine GoQ.pass rfl rfl rfl ?_
        refine GoQ.pass rfl rfl rfl ?_
        refine GoQ.pass rfl rfl rfl ?_
        refine GoQ.pure rfl (op_pickF rfl rfl rfl) rfl rfl ?_
        refine GoQ.pure rfl (op_move rfl) rfl rfl ?_
        refine GoQ.pass rfl rfl rfl ?_
        refine GoQ.pure rfl (op_pickF rfl rfl rfl) rfl rfl ?_
        refine GoQ.pure rfl (op_assign rfl) rfl rfl ?_
        refine GoQ.nil ?_
        refine Go1.ret1 Try.func5 rfl ?_
        exact ⟨false, rfl, hB.same, H⟩
      ·replace H := ifn h114 H
       refine GoQ.pure rfl (fun w => opB (op_gtr rfl rfl w) (decide_eq_false h114)) rfl rfl ?_
       refine GoQ.pure rfl (op_move rfl) rfl rfl ?_
       refine GoQ.pass rfl rfl rfl ?_
       refine GoQ.pass rfl rfl rfl ?_
       refine GoQ.pure rfl (op_pickF rfl rfl rfl) rfl rfl ?_
       refine GoQ.pure rfl (op_move rfl) rfl rfl ?_
       refine GoQ.pass rfl rfl rfl ?_
       refine GoQ.pass rfl rfl rfl ?_
       refine GoQ.pass rfl rfl rfl ?_
       refine GoQ.pass rfl rfl rfl ?_
       refine GoQ.pass rfl rfl rfl ?_
       refine GoQ.pass rfl rfl rfl ?_
       refine GoQ.pass rfl rfl rfl ?_
       refine GoQ.pass rfl rfl rfl ?_
       refine GoQ.pass rfl rfl rfl ?_
       refine GoQ.pass rfl rfl rfl ?_
       refine GoQ.pass rfl rfl rfl ?_
       refine GoQ.pass rfl rfl rfl ?_
       refine GoQ.pass rfl rfl rfl ?_
       refine GoQ.pass rfl rfl rfl ?_
       refine GoQ.pass rfl rfl rfl ?_
       refine GoQ.pure rfl (op_pickF rfl rfl rfl) rfl rfl ?_
       refine GoQ.pure rfl (op_move rfl) rfl rfl ?_
       refine GoQ.pass rfl rfl rfl ?_
       refine GoQ.pass rfl rfl rfl ?_
       refine GoQ.pass rfl rfl rfl ?_
       refine GoQ.pass rfl rfl rfl ?_
       refine GoQ.pure rfl (op_pickF rfl rfl rfl) rfl rfl ?_
       refine GoQ.pure rfl (op_move rfl) rfl rfl ?_
       refine GoQ.pass rfl rfl rfl ?_
       refine GoQ.pass rfl rfl rfl ?_
       refine GoQ.pass rfl rfl rfl ?_
       refine GoQ.pass rfl rfl rfl ?_
       refine GoQ.pass rfl rfl rfl ?_
       refine GoQ.pass rfl rfl rfl ?_
       refine GoQ.pass rfl rfl rfl ?_
       refine GoQ.pass rfl rfl rfl ?_
       refine GoQ.pass rfl rfl rfl ?_
       refine GoQ.pure rfl (op_pickF rfl rfl rfl) rfl rfl ?_
       refine GoQ.pure rfl (op_move rfl) rfl rfl ?_
       refine GoQ.pass rfl rfl rfl ?_
       refine GoQ.pass rfl rfl rfl ?_
       refine GoQ.pass rfl rfl rfl ?_
       refine GoQ.pass rfl rfl rfl ?_
       refine GoQ.pass rfl rfl rfl ?_
       refine GoQ.pass rfl rfl rfl ?_
       refine GoQ.pass rfl rfl rfl ?_
       refine GoQ.pass rfl rfl rfl ?_
       refine GoQ.pass rfl rfl rfl ?_
       refine GoQ.pass rfl rfl rfl ?_
       refine GoQ.pass rfl rfl rfl ?_
       refine GoQ.pass rfl rfl rfl ?_
       refine GoQ.pass rfl rfl rfl ?_
       refine GoQ.pass rfl rfl rfl ?_
       refine GoQ.pass rfl rfl rfl ?_
       refine GoQ.pure rfl (op_pickF rfl rfl rfl) rfl rfl ?_
       refine GoQ.pure rfl (op_move rfl) rfl rfl ?_
       refine GoQ.pass rfl rfl rfl ?_
       refine GoQ.pass rfl rfl rfl ?_
       refine GoQ.pass rfl rfl rfl ?_
       refine GoQ.pass rfl rfl rfl ?_
       refine GoQ.pass rfl rfl rfl ?_
       refine GoQ.pass rfl rfl rfl ?_
       refine GoQ.pass rfl rfl rfl ?_
       refine GoQ.pass rfl rfl rfl ?_
       refine GoQ.pure rfl (op_pickF rfl rfl rfl) rfl rfl ?_
       refine GoQ.pure rfl (op_move rfl) rfl rfl ?_
       refine GoQ.pass rfl rfl rfl ?_
       refine GoQ.pure rfl (op_pickF rfl rfl rfl) rfl rfl ?_
       refine GoQ.pure rfl (op_assign rfl) rfl rfl ?_
       refine GoQ.nil ?_
       refine Go1.ret1 Try.func5 rfl ?_
       exact ⟨false, rfl, hB.same, H⟩
     ·replace H := ifn h97 H
      refine GoQ.pure rfl (fun w => opB (op_neq rfl rfl w) (ndF h97)) rfl rfl ?_
      refine GoQ.pure rfl (op_pickF rfl rfl rfl) rfl rfl ?_
      refine GoQ.nil ?_
      refine Go1.condT rfl rfl ?_
      refine Go1.seq ?_
      refine Go1.region ?_
      refine GoR.op ((op_assign rfl) _) rfl rfl ?_
      refine GoR.nil ?_
      refine Go1.ret1 Try.func5 rfl ?_
      exact ⟨false, rfl, hB.same, H⟩
    ·replace H := ifn h83 H
     refine GoQ.pure rfl (fun w => opB (op_neq rfl rfl w) (ndF h83)) rfl rfl ?_
     refine GoQ.pure rfl (op_pickF rfl rfl rfl) rfl rfl ?_
     refine GoQ.pure rfl (op_move rfl) rfl rfl ?_
     refine GoQ.pass rfl rfl rfl ?_
     refine GoQ.pass rfl rfl rfl ?_
     refine GoQ.pass rfl rfl rfl ?_
     refine GoQ.pass rfl rfl rfl ?_
     refine GoQ.pass rfl rfl rfl ?_
     refine GoQ.pass rfl rfl rfl ?_
     refine GoQ.pass rfl rfl rfl ?_
     refine GoQ.pass rfl rfl rfl ?_
     refine GoQ.pass rfl rfl rfl ?_
     refine GoQ.pass rfl rfl rfl ?_
     refine GoQ.pass rfl rfl rfl ?_
     refine GoQ.pure rfl (op_pickT rfl rfl rfl) rfl rfl ?_
     refine GoQ.nil ?_
     refine Go1.condT rfl rfl ?_
     refine Go1.seq ?_
     refine Go1.region ?_
     refine GoR.op ((op_assign rfl) _) rfl rfl ?_
     refine GoR.nil ?_
     refine Go1.ret1 Try.func5 rfl ?_
     exact ⟨false, rfl, hB.same, H⟩
end Sg
