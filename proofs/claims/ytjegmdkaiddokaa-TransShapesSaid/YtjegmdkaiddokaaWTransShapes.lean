/- The walks: each call keeps to its plain transformer. Printed by walkgen.py. -/
import Derived.Test.YtjegmdkaiddokaaTi
import Derived.Test.YtjegmdkaiddokaaWTransInverts
namespace Sg
open Go Go.RowKit Go.Proofs
set_option linter.unusedVariables false
set_option maxRecDepth 100000
set_option maxHeartbeats 4000000
theorem body67 : Body Try.prog 67 := ⟨Try.f67, Try.func67, rfl, by kernel_rfl⟩
theorem walk_partition_canonical_int {A : List Nat} {w0 : World} {p_l : Option Addr} {c_l : Nat} {l : List Int} (hA : ∀ b ∈ A, b < w0.heap.size) (h_l : ISl (Rp.int .i64) A w0 p_l c_l l) {K : List Int → Prop} (H : partition_canonical_int l K) :
    CallsV Try.prog 67 #[.slice p_l l.length c_l] w0 (fun v w' => ∃ (r0 : List Int), ∃ (p_r0 : Option Addr), ∃ (c_r0 : Nat), v = .slice p_r0 r0.length c_r0 ∧ Same w0 w' ∧ ISl (Rp.int .i64) A w' p_r0 c_r0 r0 ∧ K r0) := by
 refine CallsV.of (l := [.slice p_l l.length c_l]) Try.func67 rfl Try.ntmps67 rfl ?_
 have hO := Owns.start hA
 have hB := Fr.refl (bl []) w0
 unfold partition_canonical_int at H
 replace h_l := h_l.ch (Ch.start A w0)
 refine Go1.seq ?_
 refine Go1.region ?_
 refine GoR.op ((op_assign rfl) _) rfl rfl ?_
 refine GoR.nil ?_
 refine Go1.seq ?_
 refine Go1.region ?_
 refine GoR.op ((op_move rfl) _) rfl rfl ?_
 refine GoR.op ((op_len Try.underlying22 rfl) _) rfl rfl ?_
 replace H := H h_l.bd
 obtain ⟨h8, H⟩ := H
 obtain ⟨h9, H⟩ := H
 have hobt := omake (n := (l.length : Int)) (r := Rp.int .i64) (d := (0 : Int)) Try.underlying22 ti3 (fun _ _ => rfl) rfl hO h8 h9 (by decide)
 obtain ⟨w1, p2, vs3, hst4, hE5, hs6, hop7⟩ := hobt
 refine GoR.op (hop7 rfl rfl) rfl rfl ?_
 replace hO := hst4.own
 replace h_l := h_l.ch hst4.ch
 replace hB := hB.trans hst4.fr
 refine GoR.op ((op_assign rfl) _) rfl rfl ?_
 refine GoR.nil ?_
 refine Go1.seq ?_
 refine Go1.region ?_
 have hobt := omakeMap (fun a : Int => Value.int .i64 a) (fun a : Int => Value.int .i64 a) hO
 obtain ⟨w11, B12, hst13, hs14, hop15⟩ := hobt
 refine GoR.op hop15 rfl rfl ?_
 replace hE5 := hE5.ch hst13.ch
 replace hO := hst13.own
 replace h_l := h_l.ch hst13.ch
 replace hB := hB.trans hst13.fr
 refine GoR.op ((op_assign rfl) _) rfl rfl ?_
 refine GoR.nil ?_
 refine Go1.seq ?_
 refine Go1.seq ?_
 refine Go1.region ?_
 refine GoR.op ((op_move rfl) _) rfl rfl ?_
 refine GoR.op ((op_len Try.underlying22 rfl) _) rfl rfl ?_
 refine GoR.op ((op_move rfl) _) rfl rfl ?_
 refine GoR.nil ?_
 refine Go1.block ?_
 refine Go1.loopW (S := Nat × (List (Int × Int)) × List Int) (fun s σ w => ∃ (vs21 : List Value), agrees σ [(3, .slice p2 l.length l.length), (4, .map (some B12)), (13, .slice p_l l.length c_l), (14, .int .i64 (l.length : Int)), (15, .int .i64 ((s.1) : Int))] ∧ Owns w0.heap.size w [.any (mapE (fun a : Int => Value.int .i64 a) (fun a : Int => Value.int .i64 a) B12 (s.2.1)), .row 3 1 p2 l.length l.length vs21] A ∧ Els (Rp.int .i64) (bl [.any (mapE (fun a : Int => Value.int .i64 a) (fun a : Int => Value.int .i64 a) B12 (s.2.1)), .row 3 1 p2 l.length l.length vs21] ++ A) w vs21 (s.2.2) ∧ ISl (Rp.int .i64) (bl [.any (mapE (fun a : Int => Value.int .i64 a) (fun a : Int => Value.int .i64 a) B12 (s.2.1)), .row 3 1 p2 l.length l.length vs21] ++ A) w p_l c_l l ∧ Fr (bl []) w0 (bl [.any (mapE (fun a : Int => Value.int .i64 a) (fun a : Int => Value.int .i64 a) B12 (s.2.1)), .row 3 1 p2 l.length l.length vs21]) w) H ⟨vs3, ⟨rfl, rfl, rfl, rfl, rfl, trivial⟩, hO, hE5, h_l, hB⟩ ?_
 rintro X1 ⟨k1_18, m1_19, p1_20⟩ H hX1 σ w17 ⟨vs21, hag, hO, hE22, h_l, hB⟩
 dsimp only at H
 refine Go1.keep [(3, .slice p2 l.length l.length), (4, .map (some B12)), (13, .slice p_l l.length c_l), (14, .int .i64 (l.length : Int)), (15, .int .i64 (k1_18 : Int))] hag ?_
 refine Go1.seq ?_
 refine Go1.region ?_
 by_cases h23 : (k1_18 : Int) < (l.length : Int)
 ·replace H := ifp h23 H
  refine GoR.op ((fun w => opB (op_lss rfl rfl w) (decide_eq_true h23)) _) rfl rfl ?_
  refine GoR.nil ?_
  refine Go1.seq ?_
  refine Go1.condT rfl rfl ?_
  refine Go1.skip ?_
  refine Go1.seq ?_
  refine Go1.block ?_
  refine Go1.seq ?_
  refine Go1.region ?_
  refine GoR.op ((op_move rfl) _) rfl rfl ?_
  obtain ⟨h24, H⟩ := H
  obtain ⟨h25, H⟩ := H
  refine GoR.op ((op_index Try.underlying22 ti3 rfl rfl h24 h25 (h_l.some_ h24 h25)) _) rfl rfl ?_
  refine GoR.op ((ldInt h_l h24 h25 Try.underlying3 rfl rfl) _ (Same.refl _)) rfl rfl ?_
  refine GoR.op ((op_assign rfl) _) rfl rfl ?_
  refine GoR.op ((op_assign rfl) _) rfl rfl ?_
  refine GoR.nil ?_
  refine Go1.seq ?_
  refine Go1.region ?_
  refine GoR.op ((op_move rfl) _) rfl rfl ?_
  refine GoR.op ((op_move rfl) _) rfl rfl ?_
  by_cases h26 : mhas m1_19 ((ix l (k1_18 : Int))) = true
  ·replace H := ifp h26 H
   refine GoR.op ((olookT (a := (ix l (k1_18 : Int))) (MK.int Try.underlying3) 0 hO rfl Try.underlying67 rfl rfl h26) _ (Same.refl _)) rfl rfl ?_
   refine GoR.op ((op_move rfl) _) rfl rfl ?_
   refine GoR.op ((op_extract rfl rfl) _) rfl rfl ?_
   refine GoR.op ((op_extract rfl rfl) _) rfl rfl ?_
   refine GoR.op ((op_assign rfl) _) rfl rfl ?_
   refine GoR.op ((op_assign rfl) _) rfl rfl ?_
   refine GoR.nil ?_
   refine Go1.seq ?_
   refine Go1.seq ?_
   refine Go1.region ?_
   refine GoR.op ((op_move rfl) _) rfl rfl ?_
   refine GoR.op ((op_not rfl) _) rfl rfl ?_
   refine GoR.nil ?_
   refine Go1.condF rfl rfl ?_
   refine Go1.skip ?_
   refine Go1.region ?_
   refine GoR.op ((op_move rfl) _) rfl rfl ?_
   refine GoR.op ((op_move rfl) _) rfl rfl ?_
   refine GoR.op ((op_move rfl) _) rfl rfl ?_
   obtain ⟨h27, H⟩ := H
   obtain ⟨h28, H⟩ := H
   refine GoR.op ((op_index Try.underlying22 ti3 rfl rfl h27 (ltn (hE22.neq hO 1 rfl) h28) (hE22.psome hO 1 rfl h27 h28)) _) rfl rfl ?_
   have hobt := ost (r := Rp.int .i64) rfl 1 hO rfl hE22 h27 h28 (v := .int .i64 (mgt m1_19 ((ix l (k1_18 : Int))))) (u := (mgt m1_19 ((ix l (k1_18 : Int))))) rfl rfl
   obtain ⟨w29, vs30, hst31, hE32, hop33⟩ := hobt
   refine GoR.op (hop33 Try.underlying3 rfl ti3 rfl rfl) rfl rfl ?_
   replace hO := hst31.own
   replace h_l := h_l.ch hst31.ch
   replace hB := hB.trans hst31.fr
   refine GoR.nil ?_
   refine Go1.inBlock ?_
   refine Go1.region ?_
   refine GoR.op ((op_add rfl rfl (wrap_i64 (natbd h23 h_l.bd))) _) rfl rfl ?_
   refine GoR.op ((op_move rfl) _) rfl rfl ?_
   refine GoR.nil ?_
   exact hX1 _ H _ _ ⟨vs30, ⟨rfl, rfl, rfl, rfl, rfl, trivial⟩, hO, hE32, h_l, hB⟩
  ·replace H := ifn h26 H
   refine GoR.op ((olookF (a := (ix l (k1_18 : Int))) (MK.int Try.underlying3) 0 hO rfl Try.underlying67 ti3 rfl rfl h26) _ (Same.refl _)) rfl rfl ?_
   refine GoR.op ((op_move rfl) _) rfl rfl ?_
   refine GoR.op ((op_extract rfl rfl) _) rfl rfl ?_
   refine GoR.op ((op_extract rfl rfl) _) rfl rfl ?_
   refine GoR.op ((op_assign rfl) _) rfl rfl ?_
   refine GoR.op ((op_assign rfl) _) rfl rfl ?_
   refine GoR.nil ?_
   refine Go1.seq ?_
   refine Go1.seq ?_
   refine Go1.region ?_
   refine GoR.op ((op_move rfl) _) rfl rfl ?_
   refine GoR.op ((op_not rfl) _) rfl rfl ?_
   refine GoR.nil ?_
   refine Go1.condT rfl rfl ?_
   refine Go1.seq ?_
   refine Go1.region ?_
   refine GoR.op ((op_move rfl) _) rfl rfl ?_
   refine GoR.op ((omapLen 0 hO rfl Try.underlying67 rfl) _ (Same.refl _)) rfl rfl ?_
   refine GoR.op ((op_assign rfl) _) rfl rfl ?_
   refine GoR.nil ?_
   refine Go1.region ?_
   refine GoR.op ((op_move rfl) _) rfl rfl ?_
   refine GoR.op ((op_move rfl) _) rfl rfl ?_
   refine GoR.op ((op_move rfl) _) rfl rfl ?_
   have hobt := omapUpd (MK.int Try.underlying3) 0 hO rfl Try.underlying67 (ix l (k1_18 : Int)) (m1_19.length : Int)
   obtain ⟨w34, hst35, hop36⟩ := hobt
   refine GoR.op (hop36 rfl rfl rfl) rfl rfl ?_
   replace hE22 := hE22.ch hst35.ch
   replace hO := hst35.own
   replace h_l := h_l.ch hst35.ch
   replace hB := hB.trans hst35.fr
   refine GoR.nil ?_
   refine Go1.region ?_
   refine GoR.op ((op_move rfl) _) rfl rfl ?_
   refine GoR.op ((op_move rfl) _) rfl rfl ?_
   refine GoR.op ((op_move rfl) _) rfl rfl ?_
   obtain ⟨h37, H⟩ := H
   obtain ⟨h38, H⟩ := H
   refine GoR.op ((op_index Try.underlying22 ti3 rfl rfl h37 (ltn (hE22.neq hO 1 rfl) h38) (hE22.psome hO 1 rfl h37 h38)) _) rfl rfl ?_
   have hobt := ost (r := Rp.int .i64) rfl 1 hO rfl hE22 h37 h38 (v := .int .i64 (m1_19.length : Int)) (u := (m1_19.length : Int)) rfl rfl
   obtain ⟨w39, vs40, hst41, hE42, hop43⟩ := hobt
   refine GoR.op (hop43 Try.underlying3 rfl ti3 rfl rfl) rfl rfl ?_
   replace hO := hst41.own
   replace h_l := h_l.ch hst41.ch
   replace hB := hB.trans hst41.fr
   refine GoR.nil ?_
   refine Go1.inBlock ?_
   refine Go1.region ?_
   refine GoR.op ((op_add rfl rfl (wrap_i64 (natbd h23 h_l.bd))) _) rfl rfl ?_
   refine GoR.op ((op_move rfl) _) rfl rfl ?_
   refine GoR.nil ?_
   exact hX1 _ H _ _ ⟨vs40, ⟨rfl, rfl, rfl, rfl, rfl, trivial⟩, hO, hE42, h_l, hB⟩
 ·replace H := ifn h23 H
  refine GoR.op ((fun w => opB (op_lss rfl rfl w) (decide_eq_false h23)) _) rfl rfl ?_
  refine GoR.nil ?_
  refine Go1.seq ?_
  refine Go1.condF rfl rfl ?_
  refine Go1.exit rfl ?_
  refine Go1.seq ?_
  refine Go1.region ?_
  refine GoR.op ((op_move rfl) _) rfl rfl ?_
  refine GoR.op ((op_assign rfl) _) rfl rfl ?_
  refine GoR.nil ?_
  have hobt := freeze 1 hO rfl hE22
  obtain ⟨hO1, hc46, hi44, hn45⟩ := hobt
  replace h_l := h_l.ch hc46
  replace hB := hB.trans (Owns.dropFr _ _ 1)
  replace hO := hO1; clear hO1
  refine Go1.ret1 Try.func67 rfl ?_
  exact ⟨p1_20, p2, l.length, ((congrArg (fun nn => Value.slice p2 nn l.length) hn45)), hB.same, (hi44.ch (Ch.weak _ _ _)), H⟩
theorem body62 : Body Try.prog 62 := ⟨Try.f62, Try.func62, rfl, by kernel_rfl⟩
theorem walk_partition_Canonical {A : List Nat} {w0 : World} {p_l : Option Addr} {c_l : Nat} {l : List Int} (hA : ∀ b ∈ A, b < w0.heap.size) (h_l : ISl (Rp.int .i64) A w0 p_l c_l l) {K : List Int → Prop} (H : partition_Canonical l K) :
    CallsV Try.prog 62 #[.slice p_l l.length c_l] w0 (fun v w' => ∃ (r0 : List Int), ∃ (p_r0 : Option Addr), ∃ (c_r0 : Nat), v = .slice p_r0 r0.length c_r0 ∧ Same w0 w' ∧ ISl (Rp.int .i64) A w' p_r0 c_r0 r0 ∧ K r0) := by
 refine CallsV.of (l := [.slice p_l l.length c_l]) Try.func62 rfl Try.ntmps62 rfl ?_
 have hO := Owns.start hA
 have hB := Fr.refl (bl []) w0
 unfold partition_Canonical at H
 replace h_l := h_l.ch (Ch.start A w0)
 refine Go1.seq ?_
 refine Go1.region ?_
 refine GoR.op ((op_assign rfl) _) rfl rfl ?_
 refine GoR.nil ?_
 refine Go1.seq ?_
 refine Go1.seq ?_
 refine Go1.region ?_
 refine GoR.op ((op_move rfl) _) rfl rfl ?_
 refine GoR.op ((op_len Try.underlying22 rfl) _) rfl rfl ?_
 replace H := H h_l.bd
 by_cases h1 : (4096 : Int) < (l.length : Int)
 ·replace H := ifp h1 H
  refine GoR.op ((fun w => opB (op_gtr rfl rfl w) (decide_eq_true h1)) _) rfl rfl ?_
  refine GoR.nil ?_
  refine Go1.condT rfl rfl ?_
  refine Go1.seq ?_
  refine Go1.region ?_
  refine GoR.op ((op_assign rfl) _) rfl rfl ?_
  refine GoR.nil ?_
  refine Go1.ret1 Try.func62 rfl ?_
  exact ⟨([] : List Int), none, 0, rfl, hB.same, (ISl.null _ _ _), H⟩
 ·replace H := ifn h1 H
  refine GoR.op ((fun w => opB (op_gtr rfl rfl w) (decide_eq_false h1)) _) rfl rfl ?_
  refine GoR.nil ?_
  refine Go1.condF rfl rfl ?_
  refine Go1.skip ?_
  refine Go1.seq ?_
  refine Go1.region ?_
  refine GoR.op ((op_move rfl) _) rfl rfl ?_
  refine GoR.call (op_call body67 rfl (walk_partition_canonical_int hO.lt h_l H)) rfl rfl ?_
  rintro v6 w3 ⟨r2, p_r2, c_r2, rfl, hs4, h_r2, H⟩
  have hst7 := Stp.same hO hs4
  replace hO := hst7.own
  replace h_l := h_l.ch hst7.ch
  replace hB := hB.trans hst7.fr
  refine GoR.op ((op_assign rfl) _) rfl rfl ?_
  refine GoR.nil ?_
  refine Go1.ret1 Try.func62 rfl ?_
  exact ⟨r2, p_r2, c_r2, rfl, hB.same, (h_r2.ch (Ch.weak _ _ _)), H⟩
theorem body50 : Body Try.prog 50 := ⟨Try.f50, Try.func50, rfl, by kernel_rfl⟩
theorem walk_trans_Kernel {A : List Nat} {w0 : World} {p_f : Option Addr} {c_f : Nat} {f : List Int} (hA : ∀ b ∈ A, b < w0.heap.size) (h_f : ISl (Rp.int .i64) A w0 p_f c_f f) {K : List Int → Prop} (H : trans_Kernel f K) :
    CallsV Try.prog 50 #[.slice p_f f.length c_f] w0 (fun v w' => ∃ (r0 : List Int), ∃ (p_r0 : Option Addr), ∃ (c_r0 : Nat), v = .slice p_r0 r0.length c_r0 ∧ Same w0 w' ∧ ISl (Rp.int .i64) A w' p_r0 c_r0 r0 ∧ K r0) := by
 refine CallsV.of (l := [.slice p_f f.length c_f]) Try.func50 rfl Try.ntmps50 rfl ?_
 have hO := Owns.start hA
 have hB := Fr.refl (bl []) w0
 unfold trans_Kernel at H
 replace h_f := h_f.ch (Ch.start A w0)
 refine Go1.seq ?_
 refine Go1.region ?_
 refine GoR.op ((op_assign rfl) _) rfl rfl ?_
 refine GoR.nil ?_
 refine Go1.seq ?_
 refine Go1.seq ?_
 refine Go1.region ?_
 refine GoR.op ((op_move rfl) _) rfl rfl ?_
 refine GoR.call (op_call body21 rfl (walk_trans_Valid hO.lt h_f H)) rfl rfl ?_
 rintro v5 w2 ⟨r1, rfl, hs3, H⟩
 have hst6 := Stp.same hO hs3
 replace hO := hst6.own
 replace h_f := h_f.ch hst6.ch
 replace hB := hB.trans hst6.fr
 cases r1
 ·replace H := ifn Bool.false_ne_true H
  refine GoR.op ((op_not rfl) _) rfl rfl ?_
  refine GoR.nil ?_
  refine Go1.condT rfl rfl ?_
  refine Go1.seq ?_
  refine Go1.region ?_
  refine GoR.op ((op_assign rfl) _) rfl rfl ?_
  refine GoR.nil ?_
  refine Go1.ret1 Try.func50 rfl ?_
  exact ⟨([] : List Int), none, 0, rfl, hB.same, (ISl.null _ _ _), H⟩
 ·replace H := ifp rfl H
  refine GoR.op ((op_not rfl) _) rfl rfl ?_
  refine GoR.nil ?_
  refine Go1.condF rfl rfl ?_
  refine Go1.skip ?_
  refine Go1.seq ?_
  refine Go1.region ?_
  refine GoR.op ((op_move rfl) _) rfl rfl ?_
  refine GoR.call (op_call body62 rfl (walk_partition_Canonical hO.lt h_f H)) rfl rfl ?_
  rintro v11 w8 ⟨r7, p_r7, c_r7, rfl, hs9, h_r7, H⟩
  have hst12 := Stp.same hO hs9
  replace hO := hst12.own
  replace h_f := h_f.ch hst12.ch
  replace hB := hB.trans hst12.fr
  refine GoR.op ((op_assign rfl) _) rfl rfl ?_
  refine GoR.nil ?_
  refine Go1.ret1 Try.func50 rfl ?_
  exact ⟨r7, p_r7, c_r7, rfl, hB.same, (h_r7.ch (Ch.weak _ _ _)), H⟩
theorem body52 : Body Try.prog 52 := ⟨Try.f52, Try.func52, rfl, by kernel_rfl⟩
theorem walk_ref03_Canonical {A : List Nat} {w0 : World} {p_l : Option Addr} {c_l : Nat} {l : List Int} (hA : ∀ b ∈ A, b < w0.heap.size) (h_l : ISl (Rp.int .i64) A w0 p_l c_l l) {K : List Int → Prop} (H : ref03_Canonical l K) :
    CallsV Try.prog 52 #[.slice p_l l.length c_l] w0 (fun v w' => ∃ (r0 : List Int), ∃ (p_r0 : Option Addr), ∃ (c_r0 : Nat), v = .slice p_r0 r0.length c_r0 ∧ Same w0 w' ∧ ISl (Rp.int .i64) A w' p_r0 c_r0 r0 ∧ K r0) := by
 refine CallsV.of (l := [.slice p_l l.length c_l]) Try.func52 rfl Try.ntmps52 rfl ?_
 have hO := Owns.start hA
 have hB := Fr.refl (bl []) w0
 unfold ref03_Canonical at H
 replace h_l := h_l.ch (Ch.start A w0)
 refine Go1.seq ?_
 refine Go1.region ?_
 refine GoR.op ((op_assign rfl) _) rfl rfl ?_
 refine GoR.nil ?_
 refine Go1.seq ?_
 refine Go1.seq ?_
 refine Go1.region ?_
 refine GoR.op ((op_move rfl) _) rfl rfl ?_
 refine GoR.op ((op_len Try.underlying22 rfl) _) rfl rfl ?_
 replace H := H h_l.bd
 by_cases h1 : (4096 : Int) < (l.length : Int)
 ·replace H := ifp h1 H
  refine GoR.op ((fun w => opB (op_gtr rfl rfl w) (decide_eq_true h1)) _) rfl rfl ?_
  refine GoR.nil ?_
  refine Go1.condT rfl rfl ?_
  refine Go1.seq ?_
  refine Go1.region ?_
  refine GoR.op ((op_assign rfl) _) rfl rfl ?_
  refine GoR.nil ?_
  refine Go1.ret1 Try.func52 rfl ?_
  exact ⟨([] : List Int), none, 0, rfl, hB.same, (ISl.null _ _ _), H⟩
 ·replace H := ifn h1 H
  refine GoR.op ((fun w => opB (op_gtr rfl rfl w) (decide_eq_false h1)) _) rfl rfl ?_
  refine GoR.nil ?_
  refine Go1.condF rfl rfl ?_
  refine Go1.skip ?_
  refine Go1.seq ?_
  refine Go1.region ?_
  refine GoR.op ((op_move rfl) _) rfl rfl ?_
  refine GoR.op ((op_len Try.underlying22 rfl) _) rfl rfl ?_
  obtain ⟨h9, H⟩ := H
  obtain ⟨h10, H⟩ := H
  have hobt := omake (n := (l.length : Int)) (r := Rp.int .i64) (d := (0 : Int)) Try.underlying22 ti3 (fun _ _ => rfl) rfl hO h9 h10 (by decide)
  obtain ⟨w2, p3, vs4, hst5, hE6, hs7, hop8⟩ := hobt
  refine GoR.op (hop8 rfl rfl) rfl rfl ?_
  replace hO := hst5.own
  replace h_l := h_l.ch hst5.ch
  replace hB := hB.trans hst5.fr
  refine GoR.op ((op_assign rfl) _) rfl rfl ?_
  refine GoR.nil ?_
  refine Go1.seq ?_
  refine Go1.region ?_
  refine GoR.op ((op_assign rfl) _) rfl rfl ?_
  refine GoR.nil ?_
  refine Go1.seq ?_
  refine Go1.region ?_
  have hobt := omakeMap (fun a : Int => Value.int .i64 a) (fun a : Int => Value.int .i64 a) hO
  obtain ⟨w12, B13, hst14, hs15, hop16⟩ := hobt
  refine GoR.op hop16 rfl rfl ?_
  replace hE6 := hE6.ch hst14.ch
  replace hO := hst14.own
  replace h_l := h_l.ch hst14.ch
  replace hB := hB.trans hst14.fr
  refine GoR.op ((op_assign rfl) _) rfl rfl ?_
  refine GoR.nil ?_
  refine Go1.seq ?_
  refine Go1.seq ?_
  refine Go1.region ?_
  refine GoR.op ((op_move rfl) _) rfl rfl ?_
  refine GoR.op ((op_len Try.underlying22 rfl) _) rfl rfl ?_
  refine GoR.op ((op_move rfl) _) rfl rfl ?_
  refine GoR.nil ?_
  refine Go1.block ?_
  refine Go1.loopW (S := Nat × Nat × (List (Int × Int)) × List Int) (fun s σ w => ∃ (vs23 : List Value), agrees σ [(3, .slice p3 l.length l.length), (4, .int .i64 ((s.1) : Int)), (5, .map (some B13)), (17, .slice p_l l.length c_l), (18, .int .i64 (l.length : Int)), (19, .int .i64 ((s.2.1) : Int))] ∧ Owns w0.heap.size w [.any (mapE (fun a : Int => Value.int .i64 a) (fun a : Int => Value.int .i64 a) B13 (s.2.2.1)), .row 3 1 p3 l.length l.length vs23] A ∧ Els (Rp.int .i64) (bl [.any (mapE (fun a : Int => Value.int .i64 a) (fun a : Int => Value.int .i64 a) B13 (s.2.2.1)), .row 3 1 p3 l.length l.length vs23] ++ A) w vs23 (s.2.2.2) ∧ ISl (Rp.int .i64) (bl [.any (mapE (fun a : Int => Value.int .i64 a) (fun a : Int => Value.int .i64 a) B13 (s.2.2.1)), .row 3 1 p3 l.length l.length vs23] ++ A) w p_l c_l l ∧ Fr (bl []) w0 (bl [.any (mapE (fun a : Int => Value.int .i64 a) (fun a : Int => Value.int .i64 a) B13 (s.2.2.1)), .row 3 1 p3 l.length l.length vs23]) w) H ⟨vs4, ⟨rfl, rfl, rfl, rfl, rfl, rfl, trivial⟩, hO, hE6, h_l, hB⟩ ?_
  rintro X1 ⟨next1_19, k1_20, m1_21, out1_22⟩ H hX1 σ w18 ⟨vs23, hag, hO, hE24, h_l, hB⟩
  dsimp only at H
  refine Go1.keep [(3, .slice p3 l.length l.length), (4, .int .i64 (next1_19 : Int)), (5, .map (some B13)), (17, .slice p_l l.length c_l), (18, .int .i64 (l.length : Int)), (19, .int .i64 (k1_20 : Int))] hag ?_
  refine Go1.seq ?_
  refine Go1.region ?_
  by_cases h25 : (k1_20 : Int) < (l.length : Int)
  ·replace H := ifp h25 H
   refine GoR.op ((fun w => opB (op_lss rfl rfl w) (decide_eq_true h25)) _) rfl rfl ?_
   refine GoR.nil ?_
   refine Go1.seq ?_
   refine Go1.condT rfl rfl ?_
   refine Go1.skip ?_
   refine Go1.seq ?_
   refine Go1.block ?_
   refine Go1.seq ?_
   refine Go1.region ?_
   refine GoR.op ((op_move rfl) _) rfl rfl ?_
   obtain ⟨h26, H⟩ := H
   obtain ⟨h27, H⟩ := H
   refine GoR.op ((op_index Try.underlying22 ti3 rfl rfl h26 h27 (h_l.some_ h26 h27)) _) rfl rfl ?_
   refine GoR.op ((ldInt h_l h26 h27 Try.underlying3 rfl rfl) _ (Same.refl _)) rfl rfl ?_
   refine GoR.op ((op_assign rfl) _) rfl rfl ?_
   refine GoR.op ((op_assign rfl) _) rfl rfl ?_
   refine GoR.nil ?_
   refine Go1.seq ?_
   refine Go1.region ?_
   refine GoR.op ((op_move rfl) _) rfl rfl ?_
   refine GoR.op ((op_move rfl) _) rfl rfl ?_
   by_cases h28 : mhas m1_21 ((ix l (k1_20 : Int))) = true
   ·replace H := ifp h28 H
    refine GoR.op ((olookT (a := (ix l (k1_20 : Int))) (MK.int Try.underlying3) 0 hO rfl Try.underlying67 rfl rfl h28) _ (Same.refl _)) rfl rfl ?_
    refine GoR.op ((op_move rfl) _) rfl rfl ?_
    refine GoR.op ((op_extract rfl rfl) _) rfl rfl ?_
    refine GoR.op ((op_extract rfl rfl) _) rfl rfl ?_
    refine GoR.op ((op_assign rfl) _) rfl rfl ?_
    refine GoR.op ((op_assign rfl) _) rfl rfl ?_
    refine GoR.nil ?_
    refine Go1.seq ?_
    refine Go1.seq ?_
    refine Go1.region ?_
    refine GoR.op ((op_move rfl) _) rfl rfl ?_
    refine GoR.op ((op_not rfl) _) rfl rfl ?_
    refine GoR.nil ?_
    refine Go1.condF rfl rfl ?_
    refine Go1.skip ?_
    refine Go1.region ?_
    refine GoR.op ((op_move rfl) _) rfl rfl ?_
    refine GoR.op ((op_move rfl) _) rfl rfl ?_
    refine GoR.op ((op_move rfl) _) rfl rfl ?_
    obtain ⟨h29, H⟩ := H
    obtain ⟨h30, H⟩ := H
    refine GoR.op ((op_index Try.underlying22 ti3 rfl rfl h29 (ltn (hE24.neq hO 1 rfl) h30) (hE24.psome hO 1 rfl h29 h30)) _) rfl rfl ?_
    have hobt := ost (r := Rp.int .i64) rfl 1 hO rfl hE24 h29 h30 (v := .int .i64 (mgt m1_21 ((ix l (k1_20 : Int))))) (u := (mgt m1_21 ((ix l (k1_20 : Int))))) rfl rfl
    obtain ⟨w31, vs32, hst33, hE34, hop35⟩ := hobt
    refine GoR.op (hop35 Try.underlying3 rfl ti3 rfl rfl) rfl rfl ?_
    replace hO := hst33.own
    replace h_l := h_l.ch hst33.ch
    replace hB := hB.trans hst33.fr
    refine GoR.nil ?_
    refine Go1.inBlock ?_
    refine Go1.region ?_
    refine GoR.op ((op_add rfl rfl (wrap_i64 (natbd h25 h_l.bd))) _) rfl rfl ?_
    refine GoR.op ((op_move rfl) _) rfl rfl ?_
    refine GoR.nil ?_
    exact hX1 _ H _ _ ⟨vs32, ⟨rfl, rfl, rfl, rfl, rfl, rfl, trivial⟩, hO, hE34, h_l, hB⟩
   ·replace H := ifn h28 H
    refine GoR.op ((olookF (a := (ix l (k1_20 : Int))) (MK.int Try.underlying3) 0 hO rfl Try.underlying67 ti3 rfl rfl h28) _ (Same.refl _)) rfl rfl ?_
    refine GoR.op ((op_move rfl) _) rfl rfl ?_
    refine GoR.op ((op_extract rfl rfl) _) rfl rfl ?_
    refine GoR.op ((op_extract rfl rfl) _) rfl rfl ?_
    refine GoR.op ((op_assign rfl) _) rfl rfl ?_
    refine GoR.op ((op_assign rfl) _) rfl rfl ?_
    refine GoR.nil ?_
    refine Go1.seq ?_
    refine Go1.seq ?_
    refine Go1.region ?_
    refine GoR.op ((op_move rfl) _) rfl rfl ?_
    refine GoR.op ((op_not rfl) _) rfl rfl ?_
    refine GoR.nil ?_
    refine Go1.condT rfl rfl ?_
    refine Go1.seq ?_
    refine Go1.region ?_
    refine GoR.op ((op_move rfl) _) rfl rfl ?_
    refine GoR.op ((op_assign rfl) _) rfl rfl ?_
    refine GoR.nil ?_
    refine Go1.seq ?_
    refine Go1.region ?_
    refine GoR.op ((op_move rfl) _) rfl rfl ?_
    refine GoR.op ((op_move rfl) _) rfl rfl ?_
    refine GoR.op ((op_move rfl) _) rfl rfl ?_
    have hobt := omapUpd (MK.int Try.underlying3) 0 hO rfl Try.underlying67 (ix l (k1_20 : Int)) (next1_19 : Int)
    obtain ⟨w36, hst37, hop38⟩ := hobt
    refine GoR.op (hop38 rfl rfl rfl) rfl rfl ?_
    replace hE24 := hE24.ch hst37.ch
    replace hO := hst37.own
    replace h_l := h_l.ch hst37.ch
    replace hB := hB.trans hst37.fr
    refine GoR.nil ?_
    refine Go1.region ?_
    refine GoR.op ((op_move rfl) _) rfl rfl ?_
    obtain ⟨h39, H⟩ := H
    refine GoR.op ((op_add rfl rfl (wrap_i64 h39)) _) rfl rfl ?_
    refine GoR.op ((op_assign rfl) _) rfl rfl ?_
    refine GoR.nil ?_
    refine Go1.region ?_
    refine GoR.op ((op_move rfl) _) rfl rfl ?_
    refine GoR.op ((op_move rfl) _) rfl rfl ?_
    refine GoR.op ((op_move rfl) _) rfl rfl ?_
    obtain ⟨h40, H⟩ := H
    obtain ⟨h41, H⟩ := H
    refine GoR.op ((op_index Try.underlying22 ti3 rfl rfl h40 (ltn (hE24.neq hO 1 rfl) h41) (hE24.psome hO 1 rfl h40 h41)) _) rfl rfl ?_
    have hobt := ost (r := Rp.int .i64) rfl 1 hO rfl hE24 h40 h41 (v := .int .i64 (next1_19 : Int)) (u := (next1_19 : Int)) rfl rfl
    obtain ⟨w42, vs43, hst44, hE45, hop46⟩ := hobt
    refine GoR.op (hop46 Try.underlying3 rfl ti3 rfl rfl) rfl rfl ?_
    replace hO := hst44.own
    replace h_l := h_l.ch hst44.ch
    replace hB := hB.trans hst44.fr
    refine GoR.nil ?_
    refine Go1.inBlock ?_
    refine Go1.region ?_
    refine GoR.op ((op_add rfl rfl (wrap_i64 (natbd h25 h_l.bd))) _) rfl rfl ?_
    refine GoR.op ((op_move rfl) _) rfl rfl ?_
    refine GoR.nil ?_
    exact hX1 _ H _ _ ⟨vs43, ⟨rfl, rfl, rfl, rfl, rfl, rfl, trivial⟩, hO, hE45, h_l, hB⟩
  ·replace H := ifn h25 H
   refine GoR.op ((fun w => opB (op_lss rfl rfl w) (decide_eq_false h25)) _) rfl rfl ?_
   refine GoR.nil ?_
   refine Go1.seq ?_
   refine Go1.condF rfl rfl ?_
   refine Go1.exit rfl ?_
   refine Go1.seq ?_
   refine Go1.region ?_
   refine GoR.op ((op_move rfl) _) rfl rfl ?_
   refine GoR.op ((op_assign rfl) _) rfl rfl ?_
   refine GoR.nil ?_
   have hobt := freeze 1 hO rfl hE24
   obtain ⟨hO1, hc49, hi47, hn48⟩ := hobt
   replace h_l := h_l.ch hc49
   replace hB := hB.trans (Owns.dropFr _ _ 1)
   replace hO := hO1; clear hO1
   refine Go1.ret1 Try.func52 rfl ?_
   exact ⟨out1_22, p3, l.length, ((congrArg (fun nn => Value.slice p3 nn l.length) hn48)), hB.same, (hi47.ch (Ch.weak _ _ _)), H⟩
theorem body53 : Body Try.prog 53 := ⟨Try.f53, Try.func53, rfl, by kernel_rfl⟩
theorem walk_ref03_Count {A : List Nat} {w0 : World} {p_p : Option Addr} {c_p : Nat} {p : List Int} (hA : ∀ b ∈ A, b < w0.heap.size) (h_p : ISl (Rp.int .i64) A w0 p_p c_p p) {K : Int → Prop} (H : ref03_Count p K) :
    CallsV Try.prog 53 #[.slice p_p p.length c_p] w0 (fun v w' => ∃ (r0 : Int), v = .int .i64 r0 ∧ Same w0 w' ∧ K r0) := by
 refine CallsV.of (l := [.slice p_p p.length c_p]) Try.func53 rfl Try.ntmps53 rfl ?_
 have hO := Owns.start hA
 have hB := Fr.refl (bl []) w0
 unfold ref03_Count at H
 replace h_p := h_p.ch (Ch.start A w0)
 refine Go1.seq ?_
 refine Go1.region ?_
 refine GoR.op ((op_assign rfl) _) rfl rfl ?_
 refine GoR.nil ?_
 refine Go1.seq ?_
 refine Go1.region ?_
 refine GoR.op ((op_assign rfl) _) rfl rfl ?_
 refine GoR.nil ?_
 refine Go1.seq ?_
 refine Go1.seq ?_
 refine Go1.region ?_
 refine GoR.op ((op_move rfl) _) rfl rfl ?_
 refine GoR.op ((op_len Try.underlying22 rfl) _) rfl rfl ?_
 replace H := H h_p.bd
 refine GoR.op ((op_move rfl) _) rfl rfl ?_
 refine GoR.nil ?_
 refine Go1.block ?_
 refine Go1.loopW (S := Int × Nat) (fun s σ w => agrees σ [(3, .int .i64 (s.1)), (6, .slice p_p p.length c_p), (7, .int .i64 (p.length : Int)), (8, .int .i64 ((s.2) : Int))] ∧ Owns w0.heap.size w [] A ∧ ISl (Rp.int .i64) (bl [] ++ A) w p_p c_p p ∧ Fr (bl []) w0 (bl []) w) H ⟨⟨rfl, rfl, rfl, rfl, trivial⟩, hO, h_p, hB⟩ ?_
 rintro X1 ⟨n1_2, k1_3⟩ H hX1 σ w1 ⟨hag, hO, h_p, hB⟩
 dsimp only at H
 refine Go1.keep [(3, .int .i64 n1_2), (6, .slice p_p p.length c_p), (7, .int .i64 (p.length : Int)), (8, .int .i64 (k1_3 : Int))] hag ?_
 refine Go1.seq ?_
 refine Go1.region ?_
 by_cases h4 : (k1_3 : Int) < (p.length : Int)
 ·replace H := ifp h4 H
  refine GoR.op ((fun w => opB (op_lss rfl rfl w) (decide_eq_true h4)) _) rfl rfl ?_
  refine GoR.nil ?_
  refine Go1.seq ?_
  refine Go1.condT rfl rfl ?_
  refine Go1.skip ?_
  refine Go1.seq ?_
  refine Go1.block ?_
  refine Go1.seq ?_
  refine Go1.region ?_
  obtain ⟨h5, H⟩ := H
  obtain ⟨h6, H⟩ := H
  refine GoR.op ((op_index Try.underlying22 ti3 rfl rfl h5 h6 (h_p.some_ h5 h6)) _) rfl rfl ?_
  refine GoR.op ((ldInt h_p h5 h6 Try.underlying3 rfl rfl) _ (Same.refl _)) rfl rfl ?_
  refine GoR.op ((op_assign rfl) _) rfl rfl ?_
  refine GoR.nil ?_
  refine Go1.region ?_
  refine GoR.op ((op_move rfl) _) rfl rfl ?_
  refine GoR.op ((op_move rfl) _) rfl rfl ?_
  obtain ⟨h7, H⟩ := H
  refine GoR.op ((op_add rfl rfl (wrap_i64 h7)) _) rfl rfl ?_
  by_cases h8 : n1_2 < ((ix p (k1_3 : Int)) + (1 : Int))
  ·replace H := ifp h8 H
   refine GoR.op ((op_maxT rfl rfl h8) _) rfl rfl ?_
   refine GoR.op ((op_assign rfl) _) rfl rfl ?_
   refine GoR.nil ?_
   refine Go1.inBlock ?_
   refine Go1.region ?_
   refine GoR.op ((op_add rfl rfl (wrap_i64 (natbd h4 h_p.bd))) _) rfl rfl ?_
   refine GoR.op ((op_move rfl) _) rfl rfl ?_
   refine GoR.nil ?_
   exact hX1 _ H _ _ ⟨⟨rfl, rfl, rfl, rfl, trivial⟩, hO, h_p, hB⟩
  ·replace H := ifn h8 H
   refine GoR.op ((op_maxF rfl rfl h8) _) rfl rfl ?_
   refine GoR.op ((op_assign rfl) _) rfl rfl ?_
   refine GoR.nil ?_
   refine Go1.inBlock ?_
   refine Go1.region ?_
   refine GoR.op ((op_add rfl rfl (wrap_i64 (natbd h4 h_p.bd))) _) rfl rfl ?_
   refine GoR.op ((op_move rfl) _) rfl rfl ?_
   refine GoR.nil ?_
   exact hX1 _ H _ _ ⟨⟨rfl, rfl, rfl, rfl, trivial⟩, hO, h_p, hB⟩
 ·replace H := ifn h4 H
  refine GoR.op ((fun w => opB (op_lss rfl rfl w) (decide_eq_false h4)) _) rfl rfl ?_
  refine GoR.nil ?_
  refine Go1.seq ?_
  refine Go1.condF rfl rfl ?_
  refine Go1.exit rfl ?_
  refine Go1.seq ?_
  refine Go1.region ?_
  refine GoR.op ((op_move rfl) _) rfl rfl ?_
  refine GoR.op ((op_assign rfl) _) rfl rfl ?_
  refine GoR.nil ?_
  refine Go1.ret1 Try.func53 rfl ?_
  exact ⟨n1_2, rfl, hB.same, H⟩
theorem body14 : Body Try.prog 14 := ⟨Try.f14, Try.func14, rfl, by kernel_rfl⟩
theorem walk_law11_TransShapes {A : List Nat} {w0 : World} {p_f : Option Addr} {c_f : Nat} {f : List Int} (hA : ∀ b ∈ A, b < w0.heap.size) (h_f : ISl (Rp.int .i64) A w0 p_f c_f f) {K : Bool → Prop} (H : law11_TransShapes f K) :
    CallsV Try.prog 14 #[.slice p_f f.length c_f] w0 (fun v w' => ∃ (r0 : Bool), v = .bool r0 ∧ Same w0 w' ∧ K r0) := by
 refine CallsV.of (l := [.slice p_f f.length c_f]) Try.func14 rfl Try.ntmps14 rfl ?_
 have hO := Owns.start hA
 have hB := Fr.refl (bl []) w0
 unfold law11_TransShapes at H
 replace h_f := h_f.ch (Ch.start A w0)
 refine Go1.seq ?_
 refine Go1.region ?_
 refine GoR.op ((op_assign rfl) _) rfl rfl ?_
 refine GoR.nil ?_
 refine Go1.seq ?_
 refine Go1.region ?_
 refine GoR.op ((op_move rfl) _) rfl rfl ?_
 refine GoR.call (op_call body49 rfl (walk_trans_Image hO.lt h_f H)) rfl rfl ?_
 rintro v5 w2 ⟨r1, p_r1, c_r1, rfl, hs3, h_r1, H⟩
 have hst6 := Stp.same hO hs3
 replace hO := hst6.own
 replace h_f := h_f.ch hst6.ch
 replace hB := hB.trans hst6.fr
 refine GoR.op ((op_move rfl) _) rfl rfl ?_
 refine GoR.call (op_call body50 rfl (walk_trans_Kernel hO.lt h_f H)) rfl rfl ?_
 rintro v11 w8 ⟨r7, p_r7, c_r7, rfl, hs9, h_r7, H⟩
 have hst12 := Stp.same hO hs9
 replace hO := hst12.own
 replace h_f := h_f.ch hst12.ch
 replace h_r1 := h_r1.ch hst12.ch
 replace hB := hB.trans hst12.fr
 refine GoR.op ((op_move rfl) _) rfl rfl ?_
 refine GoR.call (op_call body44 rfl (walk_trans_Rank hO.lt h_f H)) rfl rfl ?_
 rintro v17 w14 ⟨r13, rfl, hs15, H⟩
 have hst18 := Stp.same hO hs15
 replace hO := hst18.own
 replace h_f := h_f.ch hst18.ch
 replace h_r1 := h_r1.ch hst18.ch
 replace h_r7 := h_r7.ch hst18.ch
 replace hB := hB.trans hst18.fr
 refine GoR.op ((op_assign rfl) _) rfl rfl ?_
 refine GoR.op ((op_assign rfl) _) rfl rfl ?_
 refine GoR.op ((op_assign rfl) _) rfl rfl ?_
 refine GoR.nil ?_
 refine Go1.seq ?_
 refine Go1.seq ?_
 refine Go1.region ?_
 refine GoR.op ((op_move rfl) _) rfl rfl ?_
 refine GoR.call (op_call body22 rfl (walk_ref11_Valid hO.lt h_f H)) rfl rfl ?_
 rintro v23 w20 ⟨r19, rfl, hs21, H⟩
 have hst24 := Stp.same hO hs21
 replace hO := hst24.own
 replace h_f := h_f.ch hst24.ch
 replace h_r1 := h_r1.ch hst24.ch
 replace h_r7 := h_r7.ch hst24.ch
 replace hB := hB.trans hst24.fr
 cases r19
 ·replace H := ifn Bool.false_ne_true H
  refine GoR.op ((op_not rfl) _) rfl rfl ?_
  refine GoR.nil ?_
  refine Go1.condT rfl rfl ?_
  refine Go1.seq ?_
  refine Go1.region ?_
  refine GoR.op ((op_move rfl) _) rfl rfl ?_
  refine GoR.op ((op_len Try.underlying22 rfl) _) rfl rfl ?_
  replace H := H h_r1.bd
  by_cases h25 : (r1.length : Int) = (0 : Int)
  ·replace H := ifp h25 H
   refine GoR.op ((fun w => opB (op_eql rfl rfl w) (decide_eq_true h25)) _) rfl rfl ?_
   refine GoR.op ((op_move rfl) _) rfl rfl ?_
   refine GoR.op ((op_move rfl) _) rfl rfl ?_
   refine GoR.op ((op_len Try.underlying22 rfl) _) rfl rfl ?_
   replace H := H h_r7.bd
   by_cases h26 : (r7.length : Int) = (0 : Int)
   ·replace H := ifp h26 H
    refine GoR.op ((fun w => opB (op_eql rfl rfl w) (decide_eq_true h26)) _) rfl rfl ?_
    refine GoR.op ((op_pickT rfl rfl rfl) _) rfl rfl ?_
    refine GoR.op ((op_move rfl) _) rfl rfl ?_
    refine GoR.op ((op_move rfl) _) rfl rfl ?_
    by_cases h27 : r13 = (0 : Int)
    ·replace H := ifp h27 H
     refine GoR.op ((fun w => opB (op_eql rfl rfl w) (decide_eq_true h27)) _) rfl rfl ?_
     refine GoR.op ((op_pickT rfl rfl rfl) _) rfl rfl ?_
     refine GoR.op ((op_move rfl) _) rfl rfl ?_
     refine GoR.call (op_call body17 rfl (walk_law11_awake hO.lt H)) rfl rfl ?_
     rintro v32 w29 ⟨r28, rfl, hs30, H⟩
     have hst33 := Stp.same hO hs30
     replace hO := hst33.own
     replace h_f := h_f.ch hst33.ch
     replace h_r1 := h_r1.ch hst33.ch
     replace h_r7 := h_r7.ch hst33.ch
     replace hB := hB.trans hst33.fr
     refine GoR.op ((op_pickT rfl rfl rfl) _) rfl rfl ?_
     refine GoR.op ((op_assign rfl) _) rfl rfl ?_
     refine GoR.nil ?_
     refine Go1.ret1 Try.func14 rfl ?_
     exact ⟨r28, rfl, hB.same, H⟩
    ·replace H := ifn h27 H
     refine GoR.op ((fun w => opB (op_eql rfl rfl w) (decide_eq_false h27)) _) rfl rfl ?_
     refine GoR.op ((op_pickT rfl rfl rfl) _) rfl rfl ?_
     refine GoR.op ((op_move rfl) _) rfl rfl ?_
     refine GoR.pass rfl rfl ?_
     refine GoR.op ((op_pickF rfl rfl rfl) _) rfl rfl ?_
     refine GoR.op ((op_assign rfl) _) rfl rfl ?_
     refine GoR.nil ?_
     refine Go1.ret1 Try.func14 rfl ?_
     exact ⟨false, rfl, hB.same, H⟩
   ·replace H := ifn h26 H
    refine GoR.op ((fun w => opB (op_eql rfl rfl w) (decide_eq_false h26)) _) rfl rfl ?_
    refine GoR.op ((op_pickT rfl rfl rfl) _) rfl rfl ?_
    refine GoR.op ((op_move rfl) _) rfl rfl ?_
    refine GoR.pass rfl rfl ?_
    refine GoR.pass rfl rfl ?_
    refine GoR.op ((op_pickF rfl rfl rfl) _) rfl rfl ?_
    refine GoR.op ((op_move rfl) _) rfl rfl ?_
    refine GoR.pass rfl rfl ?_
    refine GoR.op ((op_pickF rfl rfl rfl) _) rfl rfl ?_
    refine GoR.op ((op_assign rfl) _) rfl rfl ?_
    refine GoR.nil ?_
    refine Go1.ret1 Try.func14 rfl ?_
    exact ⟨false, rfl, hB.same, H⟩
  ·replace H := ifn h25 H
   refine GoR.op ((fun w => opB (op_eql rfl rfl w) (decide_eq_false h25)) _) rfl rfl ?_
   refine GoR.op ((op_move rfl) _) rfl rfl ?_
   refine GoR.pass rfl rfl ?_
   refine GoR.pass rfl rfl ?_
   refine GoR.pass rfl rfl ?_
   refine GoR.op ((op_pickF rfl rfl rfl) _) rfl rfl ?_
   refine GoR.op ((op_move rfl) _) rfl rfl ?_
   refine GoR.pass rfl rfl ?_
   refine GoR.pass rfl rfl ?_
   refine GoR.op ((op_pickF rfl rfl rfl) _) rfl rfl ?_
   refine GoR.op ((op_move rfl) _) rfl rfl ?_
   refine GoR.pass rfl rfl ?_
   refine GoR.op ((op_pickF rfl rfl rfl) _) rfl rfl ?_
   refine GoR.op ((op_assign rfl) _) rfl rfl ?_
   refine GoR.nil ?_
   refine Go1.ret1 Try.func14 rfl ?_
   exact ⟨false, rfl, hB.same, H⟩
 ·replace H := ifp rfl H
  refine GoR.op ((op_not rfl) _) rfl rfl ?_
  refine GoR.nil ?_
  refine Go1.condF rfl rfl ?_
  refine Go1.skip ?_
  refine Go1.seq ?_
  refine Go1.region ?_
  refine GoR.op ((op_move rfl) _) rfl rfl ?_
  refine GoR.op ((op_move rfl) _) rfl rfl ?_
  refine GoR.call (op_call body51 rfl (walk_ref11_Image hO.lt h_f H)) rfl rfl ?_
  rintro v38 w35 ⟨r34, p_r34, c_r34, rfl, hs36, h_r34, H⟩
  have hst39 := Stp.same hO hs36
  replace hO := hst39.own
  replace h_f := h_f.ch hst39.ch
  replace h_r1 := h_r1.ch hst39.ch
  replace h_r7 := h_r7.ch hst39.ch
  replace hB := hB.trans hst39.fr
  refine GoR.call (op_call body18 rfl (walk_ref03_Same hO.lt h_r1 h_r34 H)) rfl rfl ?_
  rintro v44 w41 ⟨r40, rfl, hs42, H⟩
  have hst45 := Stp.same hO hs42
  replace hO := hst45.own
  replace h_f := h_f.ch hst45.ch
  replace h_r1 := h_r1.ch hst45.ch
  replace h_r7 := h_r7.ch hst45.ch
  replace h_r34 := h_r34.ch hst45.ch
  replace hB := hB.trans hst45.fr
  refine GoR.op ((op_move rfl) _) rfl rfl ?_
  cases r40
  ·replace H := ifn Bool.false_ne_true H
   refine GoR.pass rfl rfl ?_
   refine GoR.pass rfl rfl ?_
   refine GoR.pass rfl rfl ?_
   refine GoR.pass rfl rfl ?_
   refine GoR.op ((op_pickF rfl rfl rfl) _) rfl rfl ?_
   refine GoR.op ((op_move rfl) _) rfl rfl ?_
   refine GoR.pass rfl rfl ?_
   refine GoR.pass rfl rfl ?_
   refine GoR.pass rfl rfl ?_
   refine GoR.pass rfl rfl ?_
   refine GoR.op ((op_pickF rfl rfl rfl) _) rfl rfl ?_
   refine GoR.op ((op_move rfl) _) rfl rfl ?_
   refine GoR.pass rfl rfl ?_
   refine GoR.pass rfl rfl ?_
   refine GoR.pass rfl rfl ?_
   refine GoR.pass rfl rfl ?_
   refine GoR.op ((op_pickF rfl rfl rfl) _) rfl rfl ?_
   refine GoR.op ((op_move rfl) _) rfl rfl ?_
   refine GoR.pass rfl rfl ?_
   refine GoR.op ((op_pickF rfl rfl rfl) _) rfl rfl ?_
   refine GoR.op ((op_assign rfl) _) rfl rfl ?_
   refine GoR.nil ?_
   refine Go1.ret1 Try.func14 rfl ?_
   exact ⟨false, rfl, hB.same, H⟩
  ·replace H := ifp rfl H
   refine GoR.op ((op_move rfl) _) rfl rfl ?_
   refine GoR.op ((op_move rfl) _) rfl rfl ?_
   refine GoR.call (op_call body52 rfl (walk_ref03_Canonical hO.lt h_f H)) rfl rfl ?_
   rintro v50 w47 ⟨r46, p_r46, c_r46, rfl, hs48, h_r46, H⟩
   have hst51 := Stp.same hO hs48
   replace hO := hst51.own
   replace h_f := h_f.ch hst51.ch
   replace h_r1 := h_r1.ch hst51.ch
   replace h_r7 := h_r7.ch hst51.ch
   replace h_r34 := h_r34.ch hst51.ch
   replace hB := hB.trans hst51.fr
   refine GoR.call (op_call body18 rfl (walk_ref03_Same hO.lt h_r7 h_r46 H)) rfl rfl ?_
   rintro v56 w53 ⟨r52, rfl, hs54, H⟩
   have hst57 := Stp.same hO hs54
   replace hO := hst57.own
   replace h_f := h_f.ch hst57.ch
   replace h_r1 := h_r1.ch hst57.ch
   replace h_r7 := h_r7.ch hst57.ch
   replace h_r34 := h_r34.ch hst57.ch
   replace h_r46 := h_r46.ch hst57.ch
   replace hB := hB.trans hst57.fr
   refine GoR.op ((op_pickT rfl rfl rfl) _) rfl rfl ?_
   refine GoR.op ((op_move rfl) _) rfl rfl ?_
   cases r52
   ·replace H := ifn Bool.false_ne_true H
    refine GoR.pass rfl rfl ?_
    refine GoR.pass rfl rfl ?_
    refine GoR.pass rfl rfl ?_
    refine GoR.pass rfl rfl ?_
    refine GoR.op ((op_pickF rfl rfl rfl) _) rfl rfl ?_
    refine GoR.op ((op_move rfl) _) rfl rfl ?_
    refine GoR.pass rfl rfl ?_
    refine GoR.pass rfl rfl ?_
    refine GoR.pass rfl rfl ?_
    refine GoR.pass rfl rfl ?_
    refine GoR.op ((op_pickF rfl rfl rfl) _) rfl rfl ?_
    refine GoR.op ((op_move rfl) _) rfl rfl ?_
    refine GoR.pass rfl rfl ?_
    refine GoR.op ((op_pickF rfl rfl rfl) _) rfl rfl ?_
    refine GoR.op ((op_assign rfl) _) rfl rfl ?_
    refine GoR.nil ?_
    refine Go1.ret1 Try.func14 rfl ?_
    exact ⟨false, rfl, hB.same, H⟩
   ·replace H := ifp rfl H
    refine GoR.op ((op_move rfl) _) rfl rfl ?_
    refine GoR.op ((op_move rfl) _) rfl rfl ?_
    refine GoR.op ((op_len Try.underlying22 rfl) _) rfl rfl ?_
    replace H := H h_r1.bd
    by_cases h58 : r13 = (r1.length : Int)
    ·replace H := ifp h58 H
     refine GoR.op ((fun w => opB (op_eql rfl rfl w) (decide_eq_true h58)) _) rfl rfl ?_
     refine GoR.op ((op_pickT rfl rfl rfl) _) rfl rfl ?_
     refine GoR.op ((op_move rfl) _) rfl rfl ?_
     refine GoR.op ((op_move rfl) _) rfl rfl ?_
     refine GoR.op ((op_move rfl) _) rfl rfl ?_
     refine GoR.call (op_call body53 rfl (walk_ref03_Count hO.lt h_r7 H)) rfl rfl ?_
     rintro v63 w60 ⟨r59, rfl, hs61, H⟩
     have hst64 := Stp.same hO hs61
     replace hO := hst64.own
     replace h_f := h_f.ch hst64.ch
     replace h_r1 := h_r1.ch hst64.ch
     replace h_r7 := h_r7.ch hst64.ch
     replace h_r34 := h_r34.ch hst64.ch
     replace h_r46 := h_r46.ch hst64.ch
     replace hB := hB.trans hst64.fr
     by_cases h65 : r13 = r59
     ·replace H := ifp h65 H
      refine GoR.op ((fun w => opB (op_eql rfl rfl w) (decide_eq_true h65)) _) rfl rfl ?_
      refine GoR.op ((op_pickT rfl rfl rfl) _) rfl rfl ?_
      refine GoR.op ((op_move rfl) _) rfl rfl ?_
      refine GoR.call (op_call body17 rfl (walk_law11_awake hO.lt H)) rfl rfl ?_
      rintro v70 w67 ⟨r66, rfl, hs68, H⟩
      have hst71 := Stp.same hO hs68
      replace hO := hst71.own
      replace h_f := h_f.ch hst71.ch
      replace h_r1 := h_r1.ch hst71.ch
      replace h_r7 := h_r7.ch hst71.ch
      replace h_r34 := h_r34.ch hst71.ch
      replace h_r46 := h_r46.ch hst71.ch
      replace hB := hB.trans hst71.fr
      refine GoR.op ((op_pickT rfl rfl rfl) _) rfl rfl ?_
      refine GoR.op ((op_assign rfl) _) rfl rfl ?_
      refine GoR.nil ?_
      refine Go1.ret1 Try.func14 rfl ?_
      exact ⟨r66, rfl, hB.same, H⟩
     ·replace H := ifn h65 H
      refine GoR.op ((fun w => opB (op_eql rfl rfl w) (decide_eq_false h65)) _) rfl rfl ?_
      refine GoR.op ((op_pickT rfl rfl rfl) _) rfl rfl ?_
      refine GoR.op ((op_move rfl) _) rfl rfl ?_
      refine GoR.pass rfl rfl ?_
      refine GoR.op ((op_pickF rfl rfl rfl) _) rfl rfl ?_
      refine GoR.op ((op_assign rfl) _) rfl rfl ?_
      refine GoR.nil ?_
      refine Go1.ret1 Try.func14 rfl ?_
      exact ⟨false, rfl, hB.same, H⟩
    ·replace H := ifn h58 H
     refine GoR.op ((fun w => opB (op_eql rfl rfl w) (decide_eq_false h58)) _) rfl rfl ?_
     refine GoR.op ((op_pickT rfl rfl rfl) _) rfl rfl ?_
     refine GoR.op ((op_move rfl) _) rfl rfl ?_
     refine GoR.pass rfl rfl ?_
     refine GoR.pass rfl rfl ?_
     refine GoR.pass rfl rfl ?_
     refine GoR.pass rfl rfl ?_
     refine GoR.op ((op_pickF rfl rfl rfl) _) rfl rfl ?_
     refine GoR.op ((op_move rfl) _) rfl rfl ?_
     refine GoR.pass rfl rfl ?_
     refine GoR.op ((op_pickF rfl rfl rfl) _) rfl rfl ?_
     refine GoR.op ((op_assign rfl) _) rfl rfl ?_
     refine GoR.nil ?_
     refine Go1.ret1 Try.func14 rfl ?_
     exact ⟨false, rfl, hB.same, H⟩
end Sg
