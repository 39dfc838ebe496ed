/- The walks: each call keeps to its plain transformer. Printed by walkgen.py. -/
import Derived.Test.YtjegmdkaiddokaaSort
import Derived.Test.YtjegmdkaiddokaaWTransValid
namespace Sg
open Go Go.RowKit Go.Proofs
set_option linter.unusedVariables false
set_option maxRecDepth 100000
set_option maxHeartbeats 4000000
theorem body59 : Body Try.prog 59 := ⟨Try.f59, Try.func59, rfl, by kernel_rfl⟩
theorem walk_slices_Clone_int {A : List Nat} {w0 : World} {p_s : Option Addr} {c_s : Nat} {s : List Int} (hA : ∀ b ∈ A, b < w0.heap.size) (h_s : ISl (Rp.int .i64) A w0 p_s c_s s) {K : List Int → Prop} (H : slices_Clone_int s K) :
    CallsV Try.prog 59 #[.slice p_s s.length c_s] w0 (fun v w' => ∃ (r0 : List Int), ∃ (n_r0 : Nat), ∃ (p_r0 : Option Addr), ∃ (c_r0 : Nat), ∃ (vs_r0 : List Value), v = .slice p_r0 n_r0 c_r0 ∧ Same w0 w' ∧ Owns w0.heap.size w' [.row 3 1 p_r0 n_r0 c_r0 vs_r0] A ∧ Els (Rp.int .i64) (bl [.row 3 1 p_r0 n_r0 c_r0 vs_r0] ++ A) w' vs_r0 r0 ∧ K r0) := by
 refine CallsV.of (l := [.slice p_s s.length c_s]) Try.func59 rfl Try.ntmps59 rfl ?_
 have hO := Owns.start hA
 have hB := Fr.refl (bl []) w0
 unfold slices_Clone_int at H
 replace h_s := h_s.ch (Ch.start A w0)
 refine Go1.seq ?_
 refine Go1.region ?_
 refine GoR.op ((op_assign rfl) _) rfl rfl ?_
 refine GoR.nil ?_
 refine Go1.seq ?_
 refine Go1.seq ?_
 refine Go1.region ?_
 refine GoR.op ((op_move rfl) _) rfl rfl ?_
 replace H := H p_s.isNone (fun h => h_s.nilD h)
 by_cases hz2 : p_s.isNone = true
 ·replace H := ifp hz2 H
  refine GoR.op ((fun w => opB (op_nilSlice Try.underlying22 rfl rfl w) (hz2)) _) rfl rfl ?_
  refine GoR.nil ?_
  refine Go1.condT rfl rfl ?_
  refine Go1.seq ?_
  refine Go1.region ?_
  refine GoR.op ((op_assign rfl) _) rfl rfl ?_
  refine GoR.nil ?_
  have hst4 := Stp.nil (e := 3) (r := 1) hO
  replace hO := hst4.own
  replace h_s := h_s.ch hst4.ch
  replace hB := hB.trans hst4.fr
  have hE5 := Els.nil (Rp.int .i64) (bl (.row 3 1 none 0 0 [] :: []) ++ A) w0
  refine Go1.ret1 Try.func59 rfl ?_
  exact ⟨(([] : List Int)), 0, none, 0, ([]), rfl, hB.same, hO, hE5, H⟩
 ·replace H := ifn hz2 H
  refine GoR.op ((fun w => opB (op_nilSlice Try.underlying22 rfl rfl w) (Bool.eq_false_iff.2 hz2)) _) rfl rfl ?_
  refine GoR.nil ?_
  refine Go1.condF rfl rfl ?_
  refine Go1.skip ?_
  refine Go1.seq ?_
  refine Go1.region ?_
  have hobt := obuild (r := Rp.int .i64) (n := 0) (parts := []) (vs := []) (xs := ([] : List Int)) rfl Try.underlying22 ti3 hO (by decide) (by kernel_rfl) (Els.nil _ _ _) rfl
  obtain ⟨w6, p7, hst8, hE9, hs10, hop11⟩ := hobt
  refine GoR.op (hop11 rfl) rfl rfl ?_
  replace hO := hst8.own
  replace h_s := h_s.ch hst8.ch
  replace hB := hB.trans hst8.fr
  refine GoR.op ((op_move rfl) _) rfl rfl ?_
  obtain ⟨h13, H⟩ := H
  have hobt := oapp Try.underlying22 ti3 rfl 0 hO rfl hE9 h_s rfl h13 (by decide)
  obtain ⟨w14, p15, c16, vs17, hst18, hE19, hop20⟩ := hobt
  refine GoR.op (hop20 rfl rfl) rfl rfl ?_
  replace hO := hst18.own
  replace h_s := h_s.ch hst18.ch
  replace hB := hB.trans hst18.fr
  refine GoR.op ((op_assign rfl) _) rfl rfl ?_
  refine GoR.nil ?_
  refine Go1.ret1 Try.func59 rfl ?_
  exact ⟨((([] : List Int)) ++ s), (0 + s.length), p15, c16, vs17, rfl, hB.same, hO, hE19, H⟩
theorem body61 : Body Try.prog 61 := ⟨Try.f61, Try.func61, rfl, by kernel_rfl⟩
theorem body60 : Body Try.prog 60 := ⟨Try.f60, Try.func60, rfl, by kernel_rfl⟩
theorem body49 : Body Try.prog 49 := ⟨Try.f49, Try.func49, rfl, by kernel_rfl⟩
theorem walk_trans_Image {A : List Nat} {w0 : World} {p_f : Option Addr} {c_f : Nat} {f : List Int} (hA : ∀ b ∈ A, b < w0.heap.size) (h_f : ISl (Rp.int .i64) A w0 p_f c_f f) {K : List Int → Prop} (H : trans_Image f K) :
    CallsV Try.prog 49 #[.slice p_f f.length c_f] w0 (fun v w' => ∃ (r0 : List Int), ∃ (p_r0 : Option Addr), ∃ (c_r0 : Nat), v = .slice p_r0 r0.length c_r0 ∧ Same w0 w' ∧ ISl (Rp.int .i64) A w' p_r0 c_r0 r0 ∧ K r0) := by
 refine CallsV.of (l := [.slice p_f f.length c_f]) Try.func49 rfl Try.ntmps49 rfl ?_
 have hO := Owns.start hA
 have hB := Fr.refl (bl []) w0
 unfold trans_Image at H
 replace h_f := h_f.ch (Ch.start A w0)
 refine Go1.seq ?_
 refine Go1.region ?_
 refine GoR.op ((op_assign rfl) _) rfl rfl ?_
 refine GoR.nil ?_
 refine Go1.seq ?_
 refine Go1.seq ?_
 refine Go1.region ?_
 refine GoR.op ((op_move rfl) _) rfl rfl ?_
 refine GoR.call (op_call body21 rfl (walk_trans_Valid hO.lt h_f H)) rfl rfl ?_
 rintro v5 w2 ⟨r1, rfl, hs3, H⟩
 have hst6 := Stp.same hO hs3
 replace hO := hst6.own
 replace h_f := h_f.ch hst6.ch
 replace hB := hB.trans hst6.fr
 cases r1
 ·replace H := ifn Bool.false_ne_true H
  refine GoR.op ((op_not rfl) _) rfl rfl ?_
  refine GoR.nil ?_
  refine Go1.condT rfl rfl ?_
  refine Go1.seq ?_
  refine Go1.region ?_
  refine GoR.op ((op_assign rfl) _) rfl rfl ?_
  refine GoR.nil ?_
  refine Go1.ret1 Try.func49 rfl ?_
  exact ⟨([] : List Int), none, 0, rfl, hB.same, (ISl.null _ _ _), H⟩
 ·replace H := ifp rfl H
  refine GoR.op ((op_not rfl) _) rfl rfl ?_
  refine GoR.nil ?_
  refine Go1.condF rfl rfl ?_
  refine Go1.skip ?_
  refine Go1.seq ?_
  refine Go1.region ?_
  refine GoR.op ((op_move rfl) _) rfl rfl ?_
  refine GoR.call (op_call body59 rfl (walk_slices_Clone_int hO.lt h_f H)) rfl rfl ?_
  rintro v12 w9 ⟨r7, n_r7, p_r7, c_r7, vs_r7, rfl, hs10, hN11, hE8, H⟩
  have hst13 := Stp.more hO hs10 hN11
  replace hO := hst13.own
  replace h_f := h_f.ch hst13.ch
  replace hB := hB.trans hst13.fr
  replace hE8 := hE8.ch (Ch.assoc _ _ _ _)
  refine GoR.op ((op_assign rfl) _) rfl rfl ?_
  refine GoR.nil ?_
  refine Go1.seq ?_
  refine Go1.region ?_
  refine GoR.op ((op_move rfl) _) rfl rfl ?_
  obtain ⟨h20, H⟩ := H
  refine GoR.call (osort body60 0 hO rfl hE8 h20 rfl) rfl rfl ?_
  rintro v19 w15 ⟨rfl, vs16, hst17, hE18⟩
  replace hO := hst17.own
  replace h_f := h_f.ch hst17.ch
  replace hB := hB.trans hst17.fr
  refine GoR.nil ?_
  refine Go1.seq ?_
  refine Go1.region ?_
  refine GoR.op ((op_move rfl) _) rfl rfl ?_
  refine GoR.inl (vs := [.slice p_r7 n_r7 c_r7]) (caps := []) rfl rfl body61 Try.func61 rfl Try.ntmps61 rfl rfl rfl ?_
  intro RhR21 hR21
  refine Go1.seq ?_
  refine Go1.region ?_
  refine GoR.op ((op_assign rfl) _) rfl rfl ?_
  refine GoR.nil ?_
  refine Go1.seq ?_
  refine Go1.seq ?_
  refine Go1.region ?_
  refine GoR.op ((op_move rfl) _) rfl rfl ?_
  refine GoR.op ((op_lenN Try.underlying22 rfl (hE18.neq hO 0 rfl)) _) rfl rfl ?_
  by_cases h22 : ((msort r7).length : Int) < (2 : Int)
  ·replace H := ifp h22 H
   refine GoR.op ((fun w => opB (op_lss rfl rfl w) (decide_eq_true h22)) _) rfl rfl ?_
   refine GoR.nil ?_
   refine Go1.condT rfl rfl ?_
   refine Go1.seq ?_
   refine Go1.region ?_
   refine GoR.op ((op_move rfl) _) rfl rfl ?_
   refine GoR.op ((op_assign rfl) _) rfl rfl ?_
   refine GoR.nil ?_
   refine Go1.ret1V Try.func61 rfl (show _ = .slice p_r7 n_r7 c_r7 from rfl) ?_
   refine hR21 _ _ ?_
   refine GoR.op ((op_assign rfl) _) rfl rfl ?_
   refine GoR.nil ?_
   have hobt := freeze 0 hO rfl hE18
   obtain ⟨hO1, hc25, hi23, hn24⟩ := hobt
   replace h_f := h_f.ch hc25
   replace hB := hB.trans (Owns.dropFr _ _ 0)
   replace hO := hO1; clear hO1
   refine Go1.ret1 Try.func49 rfl ?_
   exact ⟨msort r7, p_r7, c_r7, ((congrArg (fun nn => Value.slice p_r7 nn c_r7) hn24)), hB.same, (hi23.ch (Ch.weak _ _ _)), H⟩
  ·replace H := ifn h22 H
   refine GoR.op ((fun w => opB (op_lss rfl rfl w) (decide_eq_false h22)) _) rfl rfl ?_
   refine GoR.nil ?_
   refine Go1.condF rfl rfl ?_
   refine Go1.skip ?_
   refine Go1.seq ?_
   refine Go1.seq ?_
   refine Go1.region ?_
   refine GoR.op ((op_assign rfl) _) rfl rfl ?_
   refine GoR.nil ?_
   refine Go1.block ?_
   refine Go1.loopW (S := Nat) (fun s σ w => agrees σ [(0, .slice p_r7 n_r7 c_r7), (3, .int .i64 (s : Int))] ∧ Owns w0.heap.size w [.row 3 1 p_r7 n_r7 c_r7 vs16] A ∧ Els (Rp.int .i64) (bl [.row 3 1 p_r7 n_r7 c_r7 vs16] ++ A) w vs16 (msort r7) ∧ Fr (bl []) w0 (bl [.row 3 1 p_r7 n_r7 c_r7 vs16]) w) H ⟨⟨rfl, rfl, trivial⟩, hO, hE18, hB⟩ ?_
   rintro X1 k1_27 H hX1 σ w26 ⟨hag, hO, hE18, hB⟩
   refine Go1.keep [(0, .slice p_r7 n_r7 c_r7), (3, .int .i64 (k1_27 : Int))] hag ?_
   refine Go1.seq ?_
   refine Go1.seq ?_
   refine Go1.region ?_
   refine GoR.op ((op_move rfl) _) rfl rfl ?_
   refine GoR.op ((op_move rfl) _) rfl rfl ?_
   refine GoR.op ((op_lenN Try.underlying22 rfl (hE18.neq hO 0 rfl)) _) rfl rfl ?_
   by_cases h28 : (k1_27 : Int) < ((msort r7).length : Int)
   ·replace H := ifp h28 H
    refine GoR.op ((fun w => opB (op_lss rfl rfl w) (decide_eq_true h28)) _) rfl rfl ?_
    refine GoR.nil ?_
    refine Go1.condT rfl rfl ?_
    refine Go1.skip ?_
    refine Go1.seq ?_
    refine Go1.block ?_
    refine Go1.seq ?_
    refine Go1.drawS 0 [(0, .pure), (1, .pure), (2, .pure), (3, .stable), (4, .pure), (5, .pure), (6, .pure), (7, .pure), (8, .stable), (9, .pure)] mixed (by kernel_rfl) ?_
    intro w29 hs30
    have hst31 := Stp.same hO hs30
    replace hE18 := hE18.ch hst31.ch
    replace hO := hst31.own
    replace hB := hB.trans hst31.fr
    refine GoQ.pure rfl (op_move rfl) rfl rfl ?_
    refine GoQ.pure rfl (op_move rfl) rfl rfl ?_
    obtain ⟨h32, H⟩ := H
    obtain ⟨h33, H⟩ := H
    refine GoQ.pure rfl (op_index Try.underlying22 ti3 rfl rfl h32 (ltn (hE18.neq hO 0 rfl) h33) (hE18.psome hO 0 rfl h32 h33)) rfl rfl ?_
    refine GoQ.stable rfl (oldInt 0 hO rfl hE18 h32 h33 Try.underlying3 rfl rfl) rfl rfl ?_
    refine GoQ.pure rfl (op_move rfl) rfl rfl ?_
    refine GoQ.pure rfl (op_move rfl) rfl rfl ?_
    obtain ⟨h34, H⟩ := H
    refine GoQ.pure rfl (op_sub rfl rfl (wrap_i64 h34)) rfl rfl ?_
    obtain ⟨h35, H⟩ := H
    obtain ⟨h36, H⟩ := H
    refine GoQ.pure rfl (op_index Try.underlying22 ti3 rfl rfl h35 (ltn (hE18.neq hO 0 rfl) h36) (hE18.psome hO 0 rfl h35 h36)) rfl rfl ?_
    refine GoQ.stable rfl (oldInt 0 hO rfl hE18 h35 h36 Try.underlying3 rfl rfl) rfl rfl ?_
    by_cases h37 : (ix (msort r7) (k1_27 : Int)) = (ix (msort r7) ((k1_27 : Int) - (1 : Int)))
    ·replace H := ifp h37 H
     refine GoQ.pure rfl (fun w => opB (op_eql rfl rfl w) (decide_eq_true h37)) rfl rfl ?_
     refine GoQ.nil ?_
     refine Go1.condT rfl rfl ?_
     refine Go1.seq ?_
     refine Go1.region ?_
     refine GoR.op ((op_move rfl) _) rfl rfl ?_
     refine GoR.op ((op_move rfl) _) rfl rfl ?_
     obtain ⟨h38, H⟩ := H
     obtain ⟨h39, H⟩ := H
     refine GoR.op ((op_sliceFrom Try.underlying22 ti3 rfl rfl h38 (lenle (hE18.neq hO 0 rfl) h39)) _) rfl rfl ?_
     refine GoR.op ((op_assign rfl) _) rfl rfl ?_
     refine GoR.nil ?_
     refine Go1.seq ?_
     refine Go1.seq ?_
     refine Go1.region ?_
     refine GoR.op ((op_assign rfl) _) rfl rfl ?_
     refine GoR.nil ?_
     refine Go1.block ?_
     refine Go1.loopW (S := Nat × Nat × List Int) (fun s σ w => ∃ (vs44 : List Value), agrees σ [(0, .slice p_r7 n_r7 c_r7), (3, .int .i64 ((s.1) : Int)), (4, .slice (tailp p_r7 (k1_27 : Int).toNat c_r7) (n_r7 - (k1_27 : Int).toNat) (c_r7 - (k1_27 : Int).toNat)), (5, .int .i64 ((s.2.1) : Int))] ∧ Owns w0.heap.size w [.row 3 1 p_r7 n_r7 c_r7 vs44] A ∧ Els (Rp.int .i64) (bl [.row 3 1 p_r7 n_r7 c_r7 vs44] ++ A) w vs44 (s.2.2) ∧ Fr (bl []) w0 (bl [.row 3 1 p_r7 n_r7 c_r7 vs44]) w) H ⟨vs16, ⟨rfl, rfl, rfl, rfl, trivial⟩, hO, hE18, hB⟩ ?_
     rintro X2 ⟨k2_41, k22_42, s2_43⟩ H hX2 σ w40 ⟨vs44, hag, hO, hE45, hB⟩
     dsimp only at H
     refine Go1.keep [(0, .slice p_r7 n_r7 c_r7), (3, .int .i64 (k2_41 : Int)), (4, .slice (tailp p_r7 (k1_27 : Int).toNat c_r7) (n_r7 - (k1_27 : Int).toNat) (c_r7 - (k1_27 : Int).toNat)), (5, .int .i64 (k22_42 : Int))] hag ?_
     refine Go1.seq ?_
     refine Go1.seq ?_
     refine Go1.region ?_
     refine GoR.op ((op_move rfl) _) rfl rfl ?_
     refine GoR.op ((op_move rfl) _) rfl rfl ?_
     refine GoR.op ((op_lenN Try.underlying22 rfl (congrArg (fun nn => nn - (k1_27 : Int).toNat) (hE45.neq hO 0 rfl))) _) rfl rfl ?_
     by_cases h46 : (k22_42 : Int) < ((s2_43.length - (k1_27 : Int).toNat : Nat) : Int)
     ·replace H := ifp h46 H
      refine GoR.op ((fun w => opB (op_lss rfl rfl w) (decide_eq_true h46)) _) rfl rfl ?_
      refine GoR.nil ?_
      refine Go1.condT rfl rfl ?_
      refine Go1.skip ?_
      refine Go1.seq ?_
      refine Go1.block ?_
      refine Go1.seq ?_
      refine Go1.drawS 0 [(0, .pure), (1, .pure), (2, .pure), (3, .stable), (4, .pure), (5, .pure), (6, .pure), (7, .pure), (8, .stable), (9, .pure)] mixed (by kernel_rfl) ?_
      intro w47 hs48
      have hst49 := Stp.same hO hs48
      replace hE45 := hE45.ch hst49.ch
      replace hO := hst49.own
      replace hB := hB.trans hst49.fr
      refine GoQ.pure rfl (op_move rfl) rfl rfl ?_
      refine GoQ.pure rfl (op_move rfl) rfl rfl ?_
      obtain ⟨h50, H⟩ := H
      obtain ⟨h51, H⟩ := H
      refine GoQ.pure rfl (op_index Try.underlying22 ti3 rfl rfl h50 (tailLt (hE45.neq hO 0 rfl) h38 h51) (tail_pos 0 hO rfl hE45 h38 h50 h51).2) rfl rfl ?_
      refine GoQ.stable rfl (tlInt 0 hO rfl hE45 h38 h50 h51 Try.underlying3 rfl rfl) rfl rfl ?_
      refine GoQ.pure rfl (op_move rfl) rfl rfl ?_
      refine GoQ.pure rfl (op_move rfl) rfl rfl ?_
      obtain ⟨h52, H⟩ := H
      refine GoQ.pure rfl (op_sub rfl rfl (wrap_i64 h52)) rfl rfl ?_
      obtain ⟨h53, H⟩ := H
      obtain ⟨h54, H⟩ := H
      refine GoQ.pure rfl (op_index Try.underlying22 ti3 rfl rfl h53 (tailLt (hE45.neq hO 0 rfl) h38 h54) (tail_pos 0 hO rfl hE45 h38 h53 h54).2) rfl rfl ?_
      refine GoQ.stable rfl (tlInt 0 hO rfl hE45 h38 h53 h54 Try.underlying3 rfl rfl) rfl rfl ?_
      by_cases h55 : (ix s2_43 ((k1_27 : Int) + (k22_42 : Int))) = (ix s2_43 ((k1_27 : Int) + ((k22_42 : Int) - (1 : Int))))
      ·replace H := ifp h55 H
       refine GoQ.pure rfl (fun w => opB (op_neq rfl rfl w) (ndT h55)) rfl rfl ?_
       refine GoQ.nil ?_
       refine Go1.condF rfl rfl ?_
       refine Go1.skip ?_
       refine Go1.inBlock ?_
       refine Go1.region ?_
       refine GoR.op ((op_move rfl) _) rfl rfl ?_
       obtain ⟨h56, H⟩ := H
       refine GoR.op ((op_add rfl rfl (wrap_i64 h56)) _) rfl rfl ?_
       refine GoR.op ((op_assign rfl) _) rfl rfl ?_
       refine GoR.nil ?_
       exact hX2 _ H _ _ ⟨vs44, ⟨rfl, rfl, rfl, rfl, trivial⟩, hO, hE45, hB⟩
      ·replace H := ifn h55 H
       refine GoQ.pure rfl (fun w => opB (op_neq rfl rfl w) (ndF h55)) rfl rfl ?_
       refine GoQ.nil ?_
       refine Go1.condT rfl rfl ?_
       refine Go1.seq ?_
       refine Go1.region ?_
       refine GoR.op ((op_move rfl) _) rfl rfl ?_
       refine GoR.op ((op_move rfl) _) rfl rfl ?_
       refine GoR.op ((op_move rfl) _) rfl rfl ?_
       refine GoR.op ((op_move rfl) _) rfl rfl ?_
       obtain ⟨h57, H⟩ := H
       obtain ⟨h58, H⟩ := H
       refine GoR.op ((op_index Try.underlying22 ti3 rfl rfl h57 (tailLt (hE45.neq hO 0 rfl) h38 h58) (tail_pos 0 hO rfl hE45 h38 h57 h58).2) _) rfl rfl ?_
       refine GoR.op ((tlInt 0 hO rfl hE45 h38 h57 h58 Try.underlying3 rfl rfl) _ (Same.refl _)) rfl rfl ?_
       obtain ⟨h59, H⟩ := H
       obtain ⟨h60, H⟩ := H
       refine GoR.op ((op_index Try.underlying22 ti3 rfl rfl h59 (ltn (hE45.neq hO 0 rfl) h60) (hE45.psome hO 0 rfl h59 h60)) _) rfl rfl ?_
       have hobt := ost (r := Rp.int .i64) rfl 0 hO rfl hE45 h59 h60 (v := .int .i64 (ix s2_43 ((k1_27 : Int) + (k22_42 : Int)))) (u := (ix s2_43 ((k1_27 : Int) + (k22_42 : Int)))) rfl rfl
       obtain ⟨w61, vs62, hst63, hE64, hop65⟩ := hobt
       refine GoR.op (hop65 Try.underlying3 rfl ti3 rfl rfl) rfl rfl ?_
       replace hO := hst63.own
       replace hB := hB.trans hst63.fr
       refine GoR.nil ?_
       refine Go1.region ?_
       refine GoR.op ((op_move rfl) _) rfl rfl ?_
       obtain ⟨h66, H⟩ := H
       refine GoR.op ((op_add rfl rfl (wrap_i64 h66)) _) rfl rfl ?_
       refine GoR.op ((op_assign rfl) _) rfl rfl ?_
       refine GoR.nil ?_
       refine Go1.inBlock ?_
       refine Go1.region ?_
       refine GoR.op ((op_move rfl) _) rfl rfl ?_
       obtain ⟨h67, H⟩ := H
       refine GoR.op ((op_add rfl rfl (wrap_i64 h67)) _) rfl rfl ?_
       refine GoR.op ((op_assign rfl) _) rfl rfl ?_
       refine GoR.nil ?_
       exact hX2 _ H _ _ ⟨vs62, ⟨rfl, rfl, rfl, rfl, trivial⟩, hO, hE64, hB⟩
     ·replace H := ifn h46 H
      refine GoR.op ((fun w => opB (op_lss rfl rfl w) (decide_eq_false h46)) _) rfl rfl ?_
      refine GoR.nil ?_
      refine Go1.condF rfl rfl ?_
      refine Go1.exit rfl ?_
      refine Go1.seq ?_
      refine Go1.region ?_
      refine GoR.op ((op_move rfl) _) rfl rfl ?_
      refine GoR.op ((op_move rfl) _) rfl rfl ?_
      obtain ⟨h68, H⟩ := H
      obtain ⟨h69, H⟩ := H
      refine GoR.op ((op_sliceFrom Try.underlying22 ti3 rfl rfl h68 (lenle (hE45.neq hO 0 rfl) h69)) _) rfl rfl ?_
      have hobt := oclear (Fl.int .i64) rfl (d := (0 : Int)) Try.underlying22 ti3 rfl rfl (fun _ _ => rfl) 0 hO rfl hE45 h68 h69
      obtain ⟨w70, vs71, hst72, hE73, hop74⟩ := hobt
      refine GoR.op (hop74 rfl) rfl rfl ?_
      replace hO := hst72.own
      replace hB := hB.trans hst72.fr
      refine GoR.nil ?_
      refine Go1.seq ?_
      refine Go1.region ?_
      refine GoR.op ((op_move rfl) _) rfl rfl ?_
      refine GoR.op ((op_move rfl) _) rfl rfl ?_
      obtain ⟨h75, H⟩ := H
      obtain ⟨h76, H⟩ := H
      have hal77 := AL.start 0 hO rfl hE73 ((k2_41 : Int)).toNat
      refine GoR.op ((op_sliceTo Try.underlying22 ti3 rfl rfl h75 (Els.lec 0 hO rfl hE73 h76)) _) rfl rfl ?_
      refine GoR.op ((op_assign rfl) _) rfl rfl ?_
      refine GoR.nil ?_
      refine Go1.ret1V Try.func61 rfl (show _ = .slice p_r7 (((k2_41 : Int)).toNat) c_r7 from rfl) ?_
      refine hR21 _ _ ?_
      refine GoR.op ((op_assign rfl) _) rfl rfl ?_
      refine GoR.nil ?_
      have hobt := freezeHead 0 hO rfl hE73 ((k2_41 : Int)).toNat
      obtain ⟨hO1, hc79, hi78⟩ := hobt
      replace hB := hB.trans (Owns.dropFr _ _ 0)
      replace hO := hO1; clear hO1
      refine Go1.ret1 Try.func49 rfl ?_
      exact ⟨(s2_43.take (k2_41 : Int).toNat ++ List.replicate (s2_43.length - (k2_41 : Int).toNat) ((0 : Int))).take ((k2_41 : Int)).toNat, p_r7, c_r7, ((congrArg (fun nn => Value.slice p_r7 nn c_r7) (takeLen h75 h76))), hB.same, (hi78.ch (Ch.weak _ _ _)), H⟩
    ·replace H := ifn h37 H
     refine GoQ.pure rfl (fun w => opB (op_eql rfl rfl w) (decide_eq_false h37)) rfl rfl ?_
     refine GoQ.nil ?_
     refine Go1.condF rfl rfl ?_
     refine Go1.skip ?_
     refine Go1.inBlock ?_
     refine Go1.region ?_
     refine GoR.op ((op_move rfl) _) rfl rfl ?_
     refine GoR.op ((op_add rfl rfl (wrap_i64 (natbd h28 hE18.bd))) _) rfl rfl ?_
     refine GoR.op ((op_assign rfl) _) rfl rfl ?_
     refine GoR.nil ?_
     exact hX1 _ H _ _ ⟨⟨rfl, rfl, trivial⟩, hO, hE18, hB⟩
   ·replace H := ifn h28 H
    refine GoR.op ((fun w => opB (op_lss rfl rfl w) (decide_eq_false h28)) _) rfl rfl ?_
    refine GoR.nil ?_
    refine Go1.condF rfl rfl ?_
    refine Go1.exit rfl ?_
    refine Go1.seq ?_
    refine Go1.region ?_
    refine GoR.op ((op_move rfl) _) rfl rfl ?_
    refine GoR.op ((op_assign rfl) _) rfl rfl ?_
    refine GoR.nil ?_
    refine Go1.ret1V Try.func61 rfl (show _ = .slice p_r7 n_r7 c_r7 from rfl) ?_
    refine hR21 _ _ ?_
    refine GoR.op ((op_assign rfl) _) rfl rfl ?_
    refine GoR.nil ?_
    have hobt := freeze 0 hO rfl hE18
    obtain ⟨hO1, hc82, hi80, hn81⟩ := hobt
    replace hB := hB.trans (Owns.dropFr _ _ 0)
    replace hO := hO1; clear hO1
    refine Go1.ret1 Try.func49 rfl ?_
    exact ⟨msort r7, p_r7, c_r7, ((congrArg (fun nn => Value.slice p_r7 nn c_r7) hn81)), hB.same, (hi80.ch (Ch.weak _ _ _)), H⟩
theorem body44 : Body Try.prog 44 := ⟨Try.f44, Try.func44, rfl, by kernel_rfl⟩
theorem walk_trans_Rank {A : List Nat} {w0 : World} {p_f : Option Addr} {c_f : Nat} {f : List Int} (hA : ∀ b ∈ A, b < w0.heap.size) (h_f : ISl (Rp.int .i64) A w0 p_f c_f f) {K : Int → Prop} (H : trans_Rank f K) :
    CallsV Try.prog 44 #[.slice p_f f.length c_f] w0 (fun v w' => ∃ (r0 : Int), v = .int .i64 r0 ∧ Same w0 w' ∧ K r0) := by
 refine CallsV.of (l := [.slice p_f f.length c_f]) Try.func44 rfl Try.ntmps44 rfl ?_
 have hO := Owns.start hA
 have hB := Fr.refl (bl []) w0
 unfold trans_Rank at H
 replace h_f := h_f.ch (Ch.start A w0)
 refine Go1.seq ?_
 refine Go1.region ?_
 refine GoR.op ((op_assign rfl) _) rfl rfl ?_
 refine GoR.nil ?_
 refine Go1.seq ?_
 refine Go1.region ?_
 refine GoR.op ((op_move rfl) _) rfl rfl ?_
 refine GoR.call (op_call body49 rfl (walk_trans_Image hO.lt h_f H)) rfl rfl ?_
 rintro v5 w2 ⟨r1, p_r1, c_r1, rfl, hs3, h_r1, H⟩
 have hst6 := Stp.same hO hs3
 replace hO := hst6.own
 replace h_f := h_f.ch hst6.ch
 replace hB := hB.trans hst6.fr
 refine GoR.op ((op_len Try.underlying22 rfl) _) rfl rfl ?_
 replace H := H h_r1.bd
 refine GoR.op ((op_assign rfl) _) rfl rfl ?_
 refine GoR.nil ?_
 refine Go1.ret1 Try.func44 rfl ?_
 exact ⟨(r1.length : Int), rfl, hB.same, H⟩
theorem body12 : Body Try.prog 12 := ⟨Try.f12, Try.func12, rfl, by kernel_rfl⟩
theorem walk_law11_TransAssociates {A : List Nat} {w0 : World} {p_a0 : Option Addr} {c_a0 : Nat} {p_a1 : Option Addr} {c_a1 : Nat} {p_a2 : Option Addr} {c_a2 : Nat} {a0 : List Int} {a1 : List Int} {a2 : List Int} (hA : ∀ b ∈ A, b < w0.heap.size) (h_a0 : ISl (Rp.int .i64) A w0 p_a0 c_a0 a0) (h_a1 : ISl (Rp.int .i64) A w0 p_a1 c_a1 a1) (h_a2 : ISl (Rp.int .i64) A w0 p_a2 c_a2 a2) {K : Bool → Prop} (H : law11_TransAssociates a0 a1 a2 K) :
    CallsV Try.prog 12 #[.slice p_a0 a0.length c_a0, .slice p_a1 a1.length c_a1, .slice p_a2 a2.length c_a2] w0 (fun v w' => ∃ (r0 : Bool), v = .bool r0 ∧ Same w0 w' ∧ K r0) := by
 refine CallsV.of (l := [.slice p_a0 a0.length c_a0, .slice p_a1 a1.length c_a1, .slice p_a2 a2.length c_a2]) Try.func12 rfl Try.ntmps12 rfl ?_
 have hO := Owns.start hA
 have hB := Fr.refl (bl []) w0
 unfold law11_TransAssociates at H
 replace h_a0 := h_a0.ch (Ch.start A w0)
 replace h_a1 := h_a1.ch (Ch.start A w0)
 replace h_a2 := h_a2.ch (Ch.start A w0)
 refine Go1.seq ?_
 refine Go1.region ?_
 refine GoR.op ((op_assign rfl) _) rfl rfl ?_
 refine GoR.nil ?_
 refine Go1.seq ?_
 refine Go1.seq ?_
 refine Go1.region ?_
 refine GoR.op ((op_move rfl) _) rfl rfl ?_
 refine GoR.op ((op_move rfl) _) rfl rfl ?_
 refine GoR.call (op_call body16 rfl (walk_law11_pair hO.lt h_a0 h_a1 H)) rfl rfl ?_
 rintro v5 w2 ⟨r1, rfl, hs3, H⟩
 have hst6 := Stp.same hO hs3
 replace hO := hst6.own
 replace h_a0 := h_a0.ch hst6.ch
 replace h_a1 := h_a1.ch hst6.ch
 replace h_a2 := h_a2.ch hst6.ch
 replace hB := hB.trans hst6.fr
 cases r1
 ·replace H := ifn Bool.false_ne_true H
  refine GoR.op ((op_not rfl) _) rfl rfl ?_
  refine GoR.op ((op_move rfl) _) rfl rfl ?_
  refine GoR.pass rfl rfl ?_
  refine GoR.pass rfl rfl ?_
  refine GoR.pass rfl rfl ?_
  refine GoR.pass rfl rfl ?_
  refine GoR.op ((op_pickT rfl rfl rfl) _) rfl rfl ?_
  refine GoR.nil ?_
  refine Go1.condT rfl rfl ?_
  refine Go1.seq ?_
  refine Go1.region ?_
  refine GoR.call (op_call body17 rfl (walk_law11_awake hO.lt H)) rfl rfl ?_
  rintro v11 w8 ⟨r7, rfl, hs9, H⟩
  have hst12 := Stp.same hO hs9
  replace hO := hst12.own
  replace h_a0 := h_a0.ch hst12.ch
  replace h_a1 := h_a1.ch hst12.ch
  replace h_a2 := h_a2.ch hst12.ch
  replace hB := hB.trans hst12.fr
  refine GoR.op ((op_assign rfl) _) rfl rfl ?_
  refine GoR.nil ?_
  refine Go1.ret1 Try.func12 rfl ?_
  exact ⟨r7, rfl, hB.same, H⟩
 ·replace H := ifp rfl H
  refine GoR.op ((op_not rfl) _) rfl rfl ?_
  refine GoR.op ((op_move rfl) _) rfl rfl ?_
  refine GoR.op ((op_move rfl) _) rfl rfl ?_
  refine GoR.op ((op_move rfl) _) rfl rfl ?_
  refine GoR.call (op_call body16 rfl (walk_law11_pair hO.lt h_a1 h_a2 H)) rfl rfl ?_
  rintro v17 w14 ⟨r13, rfl, hs15, H⟩
  have hst18 := Stp.same hO hs15
  replace hO := hst18.own
  replace h_a0 := h_a0.ch hst18.ch
  replace h_a1 := h_a1.ch hst18.ch
  replace h_a2 := h_a2.ch hst18.ch
  replace hB := hB.trans hst18.fr
  cases r13
  ·replace H := ifn Bool.false_ne_true H
   refine GoR.op ((op_not rfl) _) rfl rfl ?_
   refine GoR.op ((op_pickF rfl rfl rfl) _) rfl rfl ?_
   refine GoR.nil ?_
   refine Go1.condT rfl rfl ?_
   refine Go1.seq ?_
   refine Go1.region ?_
   refine GoR.call (op_call body17 rfl (walk_law11_awake hO.lt H)) rfl rfl ?_
   rintro v23 w20 ⟨r19, rfl, hs21, H⟩
   have hst24 := Stp.same hO hs21
   replace hO := hst24.own
   replace h_a0 := h_a0.ch hst24.ch
   replace h_a1 := h_a1.ch hst24.ch
   replace h_a2 := h_a2.ch hst24.ch
   replace hB := hB.trans hst24.fr
   refine GoR.op ((op_assign rfl) _) rfl rfl ?_
   refine GoR.nil ?_
   refine Go1.ret1 Try.func12 rfl ?_
   exact ⟨r19, rfl, hB.same, H⟩
  ·replace H := ifp rfl H
   refine GoR.op ((op_not rfl) _) rfl rfl ?_
   refine GoR.op ((op_pickF rfl rfl rfl) _) rfl rfl ?_
   refine GoR.nil ?_
   refine Go1.condF rfl rfl ?_
   refine Go1.skip ?_
   refine Go1.seq ?_
   refine Go1.region ?_
   refine GoR.op ((op_move rfl) _) rfl rfl ?_
   refine GoR.op ((op_move rfl) _) rfl rfl ?_
   refine GoR.call (op_call body15 rfl (walk_trans_Compose hO.lt h_a0 h_a1 H)) rfl rfl ?_
   rintro v29 w26 ⟨r25, p_r25, c_r25, rfl, hs27, h_r25, H⟩
   have hst30 := Stp.same hO hs27
   replace hO := hst30.own
   replace h_a0 := h_a0.ch hst30.ch
   replace h_a1 := h_a1.ch hst30.ch
   replace h_a2 := h_a2.ch hst30.ch
   replace hB := hB.trans hst30.fr
   refine GoR.op ((op_move rfl) _) rfl rfl ?_
   refine GoR.call (op_call body15 rfl (walk_trans_Compose hO.lt h_r25 h_a2 H)) rfl rfl ?_
   rintro v35 w32 ⟨r31, p_r31, c_r31, rfl, hs33, h_r31, H⟩
   have hst36 := Stp.same hO hs33
   replace hO := hst36.own
   replace h_a0 := h_a0.ch hst36.ch
   replace h_a1 := h_a1.ch hst36.ch
   replace h_a2 := h_a2.ch hst36.ch
   replace h_r25 := h_r25.ch hst36.ch
   replace hB := hB.trans hst36.fr
   refine GoR.op ((op_assign rfl) _) rfl rfl ?_
   refine GoR.nil ?_
   refine Go1.seq ?_
   refine Go1.region ?_
   refine GoR.op ((op_move rfl) _) rfl rfl ?_
   refine GoR.op ((op_move rfl) _) rfl rfl ?_
   refine GoR.op ((op_move rfl) _) rfl rfl ?_
   refine GoR.call (op_call body15 rfl (walk_trans_Compose hO.lt h_a1 h_a2 H)) rfl rfl ?_
   rintro v41 w38 ⟨r37, p_r37, c_r37, rfl, hs39, h_r37, H⟩
   have hst42 := Stp.same hO hs39
   replace hO := hst42.own
   replace h_a0 := h_a0.ch hst42.ch
   replace h_a1 := h_a1.ch hst42.ch
   replace h_a2 := h_a2.ch hst42.ch
   replace h_r25 := h_r25.ch hst42.ch
   replace h_r31 := h_r31.ch hst42.ch
   replace hB := hB.trans hst42.fr
   refine GoR.call (op_call body15 rfl (walk_trans_Compose hO.lt h_a0 h_r37 H)) rfl rfl ?_
   rintro v47 w44 ⟨r43, p_r43, c_r43, rfl, hs45, h_r43, H⟩
   have hst48 := Stp.same hO hs45
   replace hO := hst48.own
   replace h_a0 := h_a0.ch hst48.ch
   replace h_a1 := h_a1.ch hst48.ch
   replace h_a2 := h_a2.ch hst48.ch
   replace h_r25 := h_r25.ch hst48.ch
   replace h_r31 := h_r31.ch hst48.ch
   replace h_r37 := h_r37.ch hst48.ch
   replace hB := hB.trans hst48.fr
   refine GoR.op ((op_assign rfl) _) rfl rfl ?_
   refine GoR.nil ?_
   refine Go1.seq ?_
   refine Go1.region ?_
   refine GoR.op ((op_move rfl) _) rfl rfl ?_
   refine GoR.op ((op_len Try.underlying22 rfl) _) rfl rfl ?_
   replace H := H h_a0.bd
   refine GoR.call (op_call body20 rfl (walk_trans_Identity hO.lt H)) rfl rfl ?_
   rintro v53 w50 ⟨r49, p_r49, c_r49, rfl, hs51, h_r49, H⟩
   have hst54 := Stp.same hO hs51
   replace hO := hst54.own
   replace h_a0 := h_a0.ch hst54.ch
   replace h_a1 := h_a1.ch hst54.ch
   replace h_a2 := h_a2.ch hst54.ch
   replace h_r25 := h_r25.ch hst54.ch
   replace h_r31 := h_r31.ch hst54.ch
   replace h_r37 := h_r37.ch hst54.ch
   replace h_r43 := h_r43.ch hst54.ch
   replace hB := hB.trans hst54.fr
   refine GoR.op ((op_assign rfl) _) rfl rfl ?_
   refine GoR.nil ?_
   refine Go1.seq ?_
   refine Go1.region ?_
   refine GoR.op ((op_move rfl) _) rfl rfl ?_
   refine GoR.op ((op_move rfl) _) rfl rfl ?_
   refine GoR.call (op_call body15 rfl (walk_trans_Compose hO.lt h_a0 h_a1 H)) rfl rfl ?_
   rintro v59 w56 ⟨r55, p_r55, c_r55, rfl, hs57, h_r55, H⟩
   have hst60 := Stp.same hO hs57
   replace hO := hst60.own
   replace h_a0 := h_a0.ch hst60.ch
   replace h_a1 := h_a1.ch hst60.ch
   replace h_a2 := h_a2.ch hst60.ch
   replace h_r25 := h_r25.ch hst60.ch
   replace h_r31 := h_r31.ch hst60.ch
   replace h_r37 := h_r37.ch hst60.ch
   replace h_r43 := h_r43.ch hst60.ch
   replace h_r49 := h_r49.ch hst60.ch
   replace hB := hB.trans hst60.fr
   refine GoR.call (op_call body44 rfl (walk_trans_Rank hO.lt h_r55 H)) rfl rfl ?_
   rintro v65 w62 ⟨r61, rfl, hs63, H⟩
   have hst66 := Stp.same hO hs63
   replace hO := hst66.own
   replace h_a0 := h_a0.ch hst66.ch
   replace h_a1 := h_a1.ch hst66.ch
   replace h_a2 := h_a2.ch hst66.ch
   replace h_r25 := h_r25.ch hst66.ch
   replace h_r31 := h_r31.ch hst66.ch
   replace h_r37 := h_r37.ch hst66.ch
   replace h_r43 := h_r43.ch hst66.ch
   replace h_r49 := h_r49.ch hst66.ch
   replace h_r55 := h_r55.ch hst66.ch
   replace hB := hB.trans hst66.fr
   refine GoR.op ((op_assign rfl) _) rfl rfl ?_
   refine GoR.nil ?_
   refine Go1.seq ?_
   refine Go1.region ?_
   refine GoR.op ((op_move rfl) _) rfl rfl ?_
   refine GoR.op ((op_len Try.underlying22 rfl) _) rfl rfl ?_
   replace H := H h_r31.bd
   refine GoR.op ((op_move rfl) _) rfl rfl ?_
   refine GoR.op ((op_len Try.underlying22 rfl) _) rfl rfl ?_
   by_cases h67 : (r31.length : Int) = (a0.length : Int)
   ·replace H := ifp h67 H
    refine GoR.op ((fun w => opB (op_eql rfl rfl w) (decide_eq_true h67)) _) rfl rfl ?_
    refine GoR.op ((op_move rfl) _) rfl rfl ?_
    refine GoR.op ((op_move rfl) _) rfl rfl ?_
    refine GoR.op ((op_move rfl) _) rfl rfl ?_
    refine GoR.call (op_call body18 rfl (walk_ref03_Same hO.lt h_r31 h_r43 H)) rfl rfl ?_
    rintro v72 w69 ⟨r68, rfl, hs70, H⟩
    have hst73 := Stp.same hO hs70
    replace hO := hst73.own
    replace h_a0 := h_a0.ch hst73.ch
    replace h_a1 := h_a1.ch hst73.ch
    replace h_a2 := h_a2.ch hst73.ch
    replace h_r25 := h_r25.ch hst73.ch
    replace h_r31 := h_r31.ch hst73.ch
    replace h_r37 := h_r37.ch hst73.ch
    replace h_r43 := h_r43.ch hst73.ch
    replace h_r49 := h_r49.ch hst73.ch
    replace h_r55 := h_r55.ch hst73.ch
    replace hB := hB.trans hst73.fr
    refine GoR.op ((op_pickT rfl rfl rfl) _) rfl rfl ?_
    refine GoR.op ((op_move rfl) _) rfl rfl ?_
    cases r68
    ·replace H := ifn Bool.false_ne_true H
     refine GoR.pass rfl rfl ?_
     refine GoR.pass rfl rfl ?_
     refine GoR.pass rfl rfl ?_
     refine GoR.pass rfl rfl ?_
     refine GoR.pass rfl rfl ?_
     refine GoR.op ((op_pickF rfl rfl rfl) _) rfl rfl ?_
     refine GoR.op ((op_move rfl) _) rfl rfl ?_
     refine GoR.pass rfl rfl ?_
     refine GoR.pass rfl rfl ?_
     refine GoR.pass rfl rfl ?_
     refine GoR.pass rfl rfl ?_
     refine GoR.pass rfl rfl ?_
     refine GoR.op ((op_pickF rfl rfl rfl) _) rfl rfl ?_
     refine GoR.op ((op_move rfl) _) rfl rfl ?_
     refine GoR.pass rfl rfl ?_
     refine GoR.pass rfl rfl ?_
     refine GoR.op ((op_pickF rfl rfl rfl) _) rfl rfl ?_
     refine GoR.op ((op_move rfl) _) rfl rfl ?_
     refine GoR.pass rfl rfl ?_
     refine GoR.pass rfl rfl ?_
     refine GoR.pass rfl rfl ?_
     refine GoR.pass rfl rfl ?_
     refine GoR.op ((op_pickF rfl rfl rfl) _) rfl rfl ?_
     refine GoR.op ((op_move rfl) _) rfl rfl ?_
     refine GoR.pass rfl rfl ?_
     refine GoR.pass rfl rfl ?_
     refine GoR.pass rfl rfl ?_
     refine GoR.pass rfl rfl ?_
     refine GoR.op ((op_pickF rfl rfl rfl) _) rfl rfl ?_
     refine GoR.op ((op_move rfl) _) rfl rfl ?_
     refine GoR.pass rfl rfl ?_
     refine GoR.op ((op_pickF rfl rfl rfl) _) rfl rfl ?_
     refine GoR.op ((op_assign rfl) _) rfl rfl ?_
     refine GoR.nil ?_
     refine Go1.ret1 Try.func12 rfl ?_
     exact ⟨false, rfl, hB.same, H⟩
    ·replace H := ifp rfl H
     refine GoR.op ((op_move rfl) _) rfl rfl ?_
     refine GoR.op ((op_move rfl) _) rfl rfl ?_
     refine GoR.call (op_call body15 rfl (walk_trans_Compose hO.lt h_r49 h_a0 H)) rfl rfl ?_
     rintro v78 w75 ⟨r74, p_r74, c_r74, rfl, hs76, h_r74, H⟩
     have hst79 := Stp.same hO hs76
     replace hO := hst79.own
     replace h_a0 := h_a0.ch hst79.ch
     replace h_a1 := h_a1.ch hst79.ch
     replace h_a2 := h_a2.ch hst79.ch
     replace h_r25 := h_r25.ch hst79.ch
     replace h_r31 := h_r31.ch hst79.ch
     replace h_r37 := h_r37.ch hst79.ch
     replace h_r43 := h_r43.ch hst79.ch
     replace h_r49 := h_r49.ch hst79.ch
     replace h_r55 := h_r55.ch hst79.ch
     replace hB := hB.trans hst79.fr
     refine GoR.op ((op_move rfl) _) rfl rfl ?_
     refine GoR.call (op_call body18 rfl (walk_ref03_Same hO.lt h_r74 h_a0 H)) rfl rfl ?_
     rintro v84 w81 ⟨r80, rfl, hs82, H⟩
     have hst85 := Stp.same hO hs82
     replace hO := hst85.own
     replace h_a0 := h_a0.ch hst85.ch
     replace h_a1 := h_a1.ch hst85.ch
     replace h_a2 := h_a2.ch hst85.ch
     replace h_r25 := h_r25.ch hst85.ch
     replace h_r31 := h_r31.ch hst85.ch
     replace h_r37 := h_r37.ch hst85.ch
     replace h_r43 := h_r43.ch hst85.ch
     replace h_r49 := h_r49.ch hst85.ch
     replace h_r55 := h_r55.ch hst85.ch
     replace h_r74 := h_r74.ch hst85.ch
     replace hB := hB.trans hst85.fr
     refine GoR.op ((op_pickT rfl rfl rfl) _) rfl rfl ?_
     refine GoR.op ((op_move rfl) _) rfl rfl ?_
     cases r80
     ·replace H := ifn Bool.false_ne_true H
      refine GoR.pass rfl rfl ?_
      refine GoR.pass rfl rfl ?_
      refine GoR.pass rfl rfl ?_
      refine GoR.pass rfl rfl ?_
      refine GoR.pass rfl rfl ?_
      refine GoR.op ((op_pickF rfl rfl rfl) _) rfl rfl ?_
      refine GoR.op ((op_move rfl) _) rfl rfl ?_
      refine GoR.pass rfl rfl ?_
      refine GoR.pass rfl rfl ?_
      refine GoR.op ((op_pickF rfl rfl rfl) _) rfl rfl ?_
      refine GoR.op ((op_move rfl) _) rfl rfl ?_
      refine GoR.pass rfl rfl ?_
      refine GoR.pass rfl rfl ?_
      refine GoR.pass rfl rfl ?_
      refine GoR.pass rfl rfl ?_
      refine GoR.op ((op_pickF rfl rfl rfl) _) rfl rfl ?_
      refine GoR.op ((op_move rfl) _) rfl rfl ?_
      refine GoR.pass rfl rfl ?_
      refine GoR.pass rfl rfl ?_
      refine GoR.pass rfl rfl ?_
      refine GoR.pass rfl rfl ?_
      refine GoR.op ((op_pickF rfl rfl rfl) _) rfl rfl ?_
      refine GoR.op ((op_move rfl) _) rfl rfl ?_
      refine GoR.pass rfl rfl ?_
      refine GoR.op ((op_pickF rfl rfl rfl) _) rfl rfl ?_
      refine GoR.op ((op_assign rfl) _) rfl rfl ?_
      refine GoR.nil ?_
      refine Go1.ret1 Try.func12 rfl ?_
      exact ⟨false, rfl, hB.same, H⟩
     ·replace H := ifp rfl H
      refine GoR.op ((op_move rfl) _) rfl rfl ?_
      refine GoR.op ((op_move rfl) _) rfl rfl ?_
      refine GoR.call (op_call body15 rfl (walk_trans_Compose hO.lt h_a0 h_r49 H)) rfl rfl ?_
      rintro v90 w87 ⟨r86, p_r86, c_r86, rfl, hs88, h_r86, H⟩
      have hst91 := Stp.same hO hs88
      replace hO := hst91.own
      replace h_a0 := h_a0.ch hst91.ch
      replace h_a1 := h_a1.ch hst91.ch
      replace h_a2 := h_a2.ch hst91.ch
      replace h_r25 := h_r25.ch hst91.ch
      replace h_r31 := h_r31.ch hst91.ch
      replace h_r37 := h_r37.ch hst91.ch
      replace h_r43 := h_r43.ch hst91.ch
      replace h_r49 := h_r49.ch hst91.ch
      replace h_r55 := h_r55.ch hst91.ch
      replace h_r74 := h_r74.ch hst91.ch
      replace hB := hB.trans hst91.fr
      refine GoR.op ((op_move rfl) _) rfl rfl ?_
      refine GoR.call (op_call body18 rfl (walk_ref03_Same hO.lt h_r86 h_a0 H)) rfl rfl ?_
      rintro v96 w93 ⟨r92, rfl, hs94, H⟩
      have hst97 := Stp.same hO hs94
      replace hO := hst97.own
      replace h_a0 := h_a0.ch hst97.ch
      replace h_a1 := h_a1.ch hst97.ch
      replace h_a2 := h_a2.ch hst97.ch
      replace h_r25 := h_r25.ch hst97.ch
      replace h_r31 := h_r31.ch hst97.ch
      replace h_r37 := h_r37.ch hst97.ch
      replace h_r43 := h_r43.ch hst97.ch
      replace h_r49 := h_r49.ch hst97.ch
      replace h_r55 := h_r55.ch hst97.ch
      replace h_r74 := h_r74.ch hst97.ch
      replace h_r86 := h_r86.ch hst97.ch
      replace hB := hB.trans hst97.fr
      refine GoR.op ((op_pickT rfl rfl rfl) _) rfl rfl ?_
      refine GoR.op ((op_move rfl) _) rfl rfl ?_
      cases r92
      ·replace H := ifn Bool.false_ne_true H
       refine GoR.pass rfl rfl ?_
       refine GoR.pass rfl rfl ?_
       refine GoR.op ((op_pickF rfl rfl rfl) _) rfl rfl ?_
       refine GoR.op ((op_move rfl) _) rfl rfl ?_
       refine GoR.pass rfl rfl ?_
       refine GoR.pass rfl rfl ?_
       refine GoR.pass rfl rfl ?_
       refine GoR.pass rfl rfl ?_
       refine GoR.op ((op_pickF rfl rfl rfl) _) rfl rfl ?_
       refine GoR.op ((op_move rfl) _) rfl rfl ?_
       refine GoR.pass rfl rfl ?_
       refine GoR.pass rfl rfl ?_
       refine GoR.pass rfl rfl ?_
       refine GoR.pass rfl rfl ?_
       refine GoR.op ((op_pickF rfl rfl rfl) _) rfl rfl ?_
       refine GoR.op ((op_move rfl) _) rfl rfl ?_
       refine GoR.pass rfl rfl ?_
       refine GoR.op ((op_pickF rfl rfl rfl) _) rfl rfl ?_
       refine GoR.op ((op_assign rfl) _) rfl rfl ?_
       refine GoR.nil ?_
       refine Go1.ret1 Try.func12 rfl ?_
       exact ⟨false, rfl, hB.same, H⟩
      ·replace H := ifp rfl H
       refine GoR.op ((op_move rfl) _) rfl rfl ?_
       by_cases h98 : (0 : Int) < r61
       ·replace H := ifp h98 H
        refine GoR.op ((fun w => opB (op_gtr rfl rfl w) (decide_eq_true h98)) _) rfl rfl ?_
        refine GoR.op ((op_pickT rfl rfl rfl) _) rfl rfl ?_
        refine GoR.op ((op_move rfl) _) rfl rfl ?_
        refine GoR.op ((op_move rfl) _) rfl rfl ?_
        refine GoR.op ((op_move rfl) _) rfl rfl ?_
        refine GoR.call (op_call body44 rfl (walk_trans_Rank hO.lt h_a0 H)) rfl rfl ?_
        rintro v103 w100 ⟨r99, rfl, hs101, H⟩
        have hst104 := Stp.same hO hs101
        replace hO := hst104.own
        replace h_a0 := h_a0.ch hst104.ch
        replace h_a1 := h_a1.ch hst104.ch
        replace h_a2 := h_a2.ch hst104.ch
        replace h_r25 := h_r25.ch hst104.ch
        replace h_r31 := h_r31.ch hst104.ch
        replace h_r37 := h_r37.ch hst104.ch
        replace h_r43 := h_r43.ch hst104.ch
        replace h_r49 := h_r49.ch hst104.ch
        replace h_r55 := h_r55.ch hst104.ch
        replace h_r74 := h_r74.ch hst104.ch
        replace h_r86 := h_r86.ch hst104.ch
        replace hB := hB.trans hst104.fr
        by_cases h105 : r61 ≤ r99
        ·replace H := ifp h105 H
         refine GoR.op ((fun w => opB (op_leq rfl rfl w) (decide_eq_true h105)) _) rfl rfl ?_
         refine GoR.op ((op_pickT rfl rfl rfl) _) rfl rfl ?_
         refine GoR.op ((op_move rfl) _) rfl rfl ?_
         refine GoR.op ((op_move rfl) _) rfl rfl ?_
         refine GoR.op ((op_move rfl) _) rfl rfl ?_
         refine GoR.call (op_call body44 rfl (walk_trans_Rank hO.lt h_a1 H)) rfl rfl ?_
         rintro v110 w107 ⟨r106, rfl, hs108, H⟩
         have hst111 := Stp.same hO hs108
         replace hO := hst111.own
         replace h_a0 := h_a0.ch hst111.ch
         replace h_a1 := h_a1.ch hst111.ch
         replace h_a2 := h_a2.ch hst111.ch
         replace h_r25 := h_r25.ch hst111.ch
         replace h_r31 := h_r31.ch hst111.ch
         replace h_r37 := h_r37.ch hst111.ch
         replace h_r43 := h_r43.ch hst111.ch
         replace h_r49 := h_r49.ch hst111.ch
         replace h_r55 := h_r55.ch hst111.ch
         replace h_r74 := h_r74.ch hst111.ch
         replace h_r86 := h_r86.ch hst111.ch
         replace hB := hB.trans hst111.fr
         by_cases h112 : r61 ≤ r106
         ·replace H := ifp h112 H
          refine GoR.op ((fun w => opB (op_leq rfl rfl w) (decide_eq_true h112)) _) rfl rfl ?_
          refine GoR.op ((op_pickT rfl rfl rfl) _) rfl rfl ?_
          refine GoR.op ((op_move rfl) _) rfl rfl ?_
          refine GoR.call (op_call body17 rfl (walk_law11_awake hO.lt H)) rfl rfl ?_
          rintro v117 w114 ⟨r113, rfl, hs115, H⟩
          have hst118 := Stp.same hO hs115
          replace hO := hst118.own
          replace h_a0 := h_a0.ch hst118.ch
          replace h_a1 := h_a1.ch hst118.ch
          replace h_a2 := h_a2.ch hst118.ch
          replace h_r25 := h_r25.ch hst118.ch
          replace h_r31 := h_r31.ch hst118.ch
          replace h_r37 := h_r37.ch hst118.ch
          replace h_r43 := h_r43.ch hst118.ch
          replace h_r49 := h_r49.ch hst118.ch
          replace h_r55 := h_r55.ch hst118.ch
          replace h_r74 := h_r74.ch hst118.ch
          replace h_r86 := h_r86.ch hst118.ch
          replace hB := hB.trans hst118.fr
          refine GoR.op ((op_pickT rfl rfl rfl) _) rfl rfl ?_
          refine GoR.op ((op_assign rfl) _) rfl rfl ?_
          refine GoR.nil ?_
          refine Go1.ret1 Try.func12 rfl ?_
          exact ⟨r113, rfl, hB.same, H⟩
         ·replace H := ifn h112 H
          refine GoR.op ((fun w => opB (op_leq rfl rfl w) (decide_eq_false h112)) _) rfl rfl ?_
          refine GoR.op ((op_pickT rfl rfl rfl) _) rfl rfl ?_
          refine GoR.op ((op_move rfl) _) rfl rfl ?_
          refine GoR.pass rfl rfl ?_
          refine GoR.op ((op_pickF rfl rfl rfl) _) rfl rfl ?_
          refine GoR.op ((op_assign rfl) _) rfl rfl ?_
          refine GoR.nil ?_
          refine Go1.ret1 Try.func12 rfl ?_
          exact ⟨false, rfl, hB.same, H⟩
        ·replace H := ifn h105 H
         refine GoR.op ((fun w => opB (op_leq rfl rfl w) (decide_eq_false h105)) _) rfl rfl ?_
         refine GoR.op ((op_pickT rfl rfl rfl) _) rfl rfl ?_
         refine GoR.op ((op_move rfl) _) rfl rfl ?_
         refine GoR.pass rfl rfl ?_
         refine GoR.pass rfl rfl ?_
         refine GoR.pass rfl rfl ?_
         refine GoR.pass rfl rfl ?_
         refine GoR.op ((op_pickF rfl rfl rfl) _) rfl rfl ?_
         refine GoR.op ((op_move rfl) _) rfl rfl ?_
         refine GoR.pass rfl rfl ?_
         refine GoR.op ((op_pickF rfl rfl rfl) _) rfl rfl ?_
         refine GoR.op ((op_assign rfl) _) rfl rfl ?_
         refine GoR.nil ?_
         refine Go1.ret1 Try.func12 rfl ?_
         exact ⟨false, rfl, hB.same, H⟩
       ·replace H := ifn h98 H
        refine GoR.op ((fun w => opB (op_gtr rfl rfl w) (decide_eq_false h98)) _) rfl rfl ?_
        refine GoR.op ((op_pickT rfl rfl rfl) _) rfl rfl ?_
        refine GoR.op ((op_move rfl) _) rfl rfl ?_
        refine GoR.pass rfl rfl ?_
        refine GoR.pass rfl rfl ?_
        refine GoR.pass rfl rfl ?_
        refine GoR.pass rfl rfl ?_
        refine GoR.op ((op_pickF rfl rfl rfl) _) rfl rfl ?_
        refine GoR.op ((op_move rfl) _) rfl rfl ?_
        refine GoR.pass rfl rfl ?_
        refine GoR.pass rfl rfl ?_
        refine GoR.pass rfl rfl ?_
        refine GoR.pass rfl rfl ?_
        refine GoR.op ((op_pickF rfl rfl rfl) _) rfl rfl ?_
        refine GoR.op ((op_move rfl) _) rfl rfl ?_
        refine GoR.pass rfl rfl ?_
        refine GoR.op ((op_pickF rfl rfl rfl) _) rfl rfl ?_
        refine GoR.op ((op_assign rfl) _) rfl rfl ?_
        refine GoR.nil ?_
        refine Go1.ret1 Try.func12 rfl ?_
        exact ⟨false, rfl, hB.same, H⟩
   ·replace H := ifn h67 H
    refine GoR.op ((fun w => opB (op_eql rfl rfl w) (decide_eq_false h67)) _) rfl rfl ?_
    refine GoR.op ((op_move rfl) _) rfl rfl ?_
    refine GoR.pass rfl rfl ?_
    refine GoR.pass rfl rfl ?_
    refine GoR.pass rfl rfl ?_
    refine GoR.op ((op_pickF rfl rfl rfl) _) rfl rfl ?_
    refine GoR.op ((op_move rfl) _) rfl rfl ?_
    refine GoR.pass rfl rfl ?_
    refine GoR.pass rfl rfl ?_
    refine GoR.pass rfl rfl ?_
    refine GoR.pass rfl rfl ?_
    refine GoR.pass rfl rfl ?_
    refine GoR.op ((op_pickF rfl rfl rfl) _) rfl rfl ?_
    refine GoR.op ((op_move rfl) _) rfl rfl ?_
    refine GoR.pass rfl rfl ?_
    refine GoR.pass rfl rfl ?_
    refine GoR.pass rfl rfl ?_
    refine GoR.pass rfl rfl ?_
    refine GoR.pass rfl rfl ?_
    refine GoR.op ((op_pickF rfl rfl rfl) _) rfl rfl ?_
    refine GoR.op ((op_move rfl) _) rfl rfl ?_
    refine GoR.pass rfl rfl ?_
    refine GoR.pass rfl rfl ?_
    refine GoR.op ((op_pickF rfl rfl rfl) _) rfl rfl ?_
    refine GoR.op ((op_move rfl) _) rfl rfl ?_
    refine GoR.pass rfl rfl ?_
    refine GoR.pass rfl rfl ?_
    refine GoR.pass rfl rfl ?_
    refine GoR.pass rfl rfl ?_
    refine GoR.op ((op_pickF rfl rfl rfl) _) rfl rfl ?_
    refine GoR.op ((op_move rfl) _) rfl rfl ?_
    refine GoR.pass rfl rfl ?_
    refine GoR.pass rfl rfl ?_
    refine GoR.pass rfl rfl ?_
    refine GoR.pass rfl rfl ?_
    refine GoR.op ((op_pickF rfl rfl rfl) _) rfl rfl ?_
    refine GoR.op ((op_move rfl) _) rfl rfl ?_
    refine GoR.pass rfl rfl ?_
    refine GoR.op ((op_pickF rfl rfl rfl) _) rfl rfl ?_
    refine GoR.op ((op_assign rfl) _) rfl rfl ?_
    refine GoR.nil ?_
    refine Go1.ret1 Try.func12 rfl ?_
    exact ⟨false, rfl, hB.same, H⟩
end Sg
