/- The walks: each call keeps to its plain transformer. Printed by walkgen.py. -/
import Derived.Test.YtolobiljalelgaaWMultValues
namespace Sg
open Go Go.RowKit Go.Proofs
set_option linter.unusedVariables false
set_option maxRecDepth 100000
set_option maxHeartbeats 4000000
theorem body45 : Body Try.prog 45 := ⟨Try.f45, Try.func45, rfl, by kernel_rfl⟩
theorem walk_mult_Opposite {A : List Nat} {w0 : World} {p_t : Option Addr} {c_t : Nat} {t : List (List Int)} (hA : ∀ b ∈ A, b < w0.heap.size) (h_t : ISl (Rp.sl (Rp.int .i64)) A w0 p_t c_t t) {K : List (List Int) → Prop} (H : mult_Opposite t K) :
    CallsV Try.prog 45 #[.slice p_t t.length c_t] w0 (fun v w' => ∃ (r0 : List (List Int)), ∃ (p_r0 : Option Addr), ∃ (c_r0 : Nat), v = .slice p_r0 r0.length c_r0 ∧ Same w0 w' ∧ ISl (Rp.sl (Rp.int .i64)) A w' p_r0 c_r0 r0 ∧ K r0) := by
 refine CallsV.of (l := [.slice p_t t.length c_t]) Try.func45 rfl Try.ntmps45 rfl ?_
 have hO := Owns.start hA
 have hB := Fr.refl (bl []) w0
 unfold mult_Opposite at H
 replace h_t := h_t.ch (Ch.start A w0)
 refine Go1.seq ?_
 refine Go1.region ?_
 refine GoR.op ((op_assign rfl) _) rfl rfl ?_
 refine GoR.nil ?_
 refine Go1.seq ?_
 refine Go1.seq ?_
 refine Go1.region ?_
 refine GoR.op ((op_move rfl) _) rfl rfl ?_
 refine GoR.call (op_call body71 rfl (walk_mult_valid hO.lt h_t H)) rfl rfl ?_
 rintro v5 w2 ⟨r1, rfl, hs3, H⟩
 have hst6 := Stp.same hO hs3
 replace hO := hst6.own
 replace h_t := h_t.ch hst6.ch
 replace hB := hB.trans hst6.fr
 cases r1
 ·replace H := ifn Bool.false_ne_true H
  refine GoR.op ((op_not rfl) _) rfl rfl ?_
  refine GoR.nil ?_
  refine Go1.condT rfl rfl ?_
  refine Go1.seq ?_
  refine Go1.region ?_
  refine GoR.op ((op_assign rfl) _) rfl rfl ?_
  refine GoR.nil ?_
  refine Go1.ret1 Try.func45 rfl ?_
  exact ⟨([] : List (List Int)), none, 0, rfl, hB.same, (ISl.null _ _ _), H⟩
 ·replace H := ifp rfl H
  refine GoR.op ((op_not rfl) _) rfl rfl ?_
  refine GoR.nil ?_
  refine Go1.condF rfl rfl ?_
  refine Go1.skip ?_
  refine Go1.seq ?_
  refine Go1.region ?_
  refine GoR.op ((op_move rfl) _) rfl rfl ?_
  refine GoR.op ((op_len Try.underlying22 rfl) _) rfl rfl ?_
  replace H := H h_t.bd
  obtain ⟨h14, H⟩ := H
  obtain ⟨h15, H⟩ := H
  have hobt := t2make (m := (t.length : Int)) (e' := 3) (Fl.int .i64) Try.underlying22 ti23 hO h14 h15 (by decide)
  obtain ⟨w7, p8, hst10, hs12, hop13⟩ := hobt
  refine GoR.op (hop13 rfl rfl) rfl rfl ?_
  replace hO := hst10.own
  replace h_t := h_t.ch hst10.ch
  replace hB := hB.trans hst10.fr
  refine GoR.op ((op_assign rfl) _) rfl rfl ?_
  refine GoR.nil ?_
  refine Go1.seq ?_
  refine Go1.seq ?_
  refine Go1.region ?_
  refine GoR.op ((op_move rfl) _) rfl rfl ?_
  refine GoR.op ((op_lenN Try.underlying22 rfl (t2neq 0 hO rfl)) _) rfl rfl ?_
  refine GoR.op ((op_move rfl) _) rfl rfl ?_
  refine GoR.nil ?_
  refine Go1.block ?_
  refine Go1.loopW (S := Nat × List (List Int)) (fun s σ w => ∃ (n22 : Nat), ∃ (p20 : Option Addr), ∃ (c21 : Nat), ∃ (hs23 : Hd), agrees σ [(0, .slice p_t t.length c_t), (3, .slice p20 n22 c21), (13, .int .i64 ((List.replicate t.length ([] : List Int)).length : Int)), (14, .int .i64 ((s.1) : Int))] ∧ Owns w0.heap.size w [t2 (Fl.int .i64) 23 3 p20 n22 c21 hs23 (s.2)] A ∧ ISl (Rp.sl (Rp.int .i64)) (bl [t2 (Fl.int .i64) 23 3 p20 n22 c21 hs23 (s.2)] ++ A) w p_t c_t t ∧ Fr (bl []) w0 (bl [t2 (Fl.int .i64) 23 3 p20 n22 c21 hs23 (s.2)]) w) H ⟨t.length, p8, t.length, (fun _ => (none, 0)), ⟨rfl, rfl, rfl, rfl, trivial⟩, hO, h_t, hB⟩ ?_
  rintro X1 ⟨k1_18, o1_19⟩ H hX1 σ w17 ⟨n22, p20, c21, hs23, hag, hO, h_t, hB⟩
  dsimp only at H
  refine Go1.keep [(0, .slice p_t t.length c_t), (3, .slice p20 n22 c21), (13, .int .i64 ((List.replicate t.length ([] : List Int)).length : Int)), (14, .int .i64 (k1_18 : Int))] hag ?_
  refine Go1.seq ?_
  refine Go1.region ?_
  by_cases h24 : (k1_18 : Int) < ((List.replicate t.length ([] : List Int)).length : Int)
  ·replace H := ifp h24 H
   refine GoR.op ((fun w => opB (op_lss rfl rfl w) (decide_eq_true h24)) _) rfl rfl ?_
   refine GoR.nil ?_
   refine Go1.seq ?_
   refine Go1.condT rfl rfl ?_
   refine Go1.skip ?_
   refine Go1.seq ?_
   refine Go1.block ?_
   refine Go1.seq ?_
   refine Go1.region ?_
   refine GoR.op ((op_move rfl) _) rfl rfl ?_
   refine GoR.op ((op_assign rfl) _) rfl rfl ?_
   refine GoR.nil ?_
   refine Go1.seq ?_
   refine Go1.region ?_
   refine GoR.op ((op_move rfl) _) rfl rfl ?_
   refine GoR.op ((op_move rfl) _) rfl rfl ?_
   refine GoR.op ((op_move rfl) _) rfl rfl ?_
   refine GoR.op ((op_len Try.underlying22 rfl) _) rfl rfl ?_
   obtain ⟨h32, H⟩ := H
   obtain ⟨h33, H⟩ := H
   have hobt := omake (n := (t.length : Int)) (r := Rp.int .i64) (d := (0 : Int)) Try.underlying23 ti3 (fun _ _ => rfl) rfl hO h32 h33 (by decide)
   obtain ⟨w25, p26, vs27, hst28, hE29, hs30, hop31⟩ := hobt
   refine GoR.op (hop31 rfl rfl) rfl rfl ?_
   replace hO := hst28.own
   replace h_t := h_t.ch hst28.ch
   replace hB := hB.trans hst28.fr
   obtain ⟨h35, H⟩ := H
   obtain ⟨h36, H⟩ := H
   refine GoR.op ((op_index Try.underlying22 ti23 rfl rfl h35 (ltn (t2neq 1 hO rfl) h36) (t2some 1 hO rfl h35 h36)) _) rfl rfl ?_
   have hst37 := Stp.front 1 hO rfl
   replace hE29 := hE29.ch hst37.ch
   replace hO := hst37.own
   replace h_t := h_t.ch hst37.ch
   replace hB := hB.trans hst37.fr
   have hst38 := Stp.front 1 hO rfl
   replace hE29 := hE29.ch hst38.ch
   replace hO := hst38.own
   replace h_t := h_t.ch hst38.ch
   replace hB := hB.trans hst38.fr
   have hobt := t2put (hf := (Fl.int .i64)) hO hE29 h35 h36
   obtain ⟨w39, hst40, hop41⟩ := hobt
   refine GoR.op (hop41 Try.underlying23 rfl ti23 rfl rfl) rfl rfl ?_
   replace hO := hst40.own
   replace h_t := h_t.ch hst40.ch
   replace hB := hB.trans hst40.fr
   refine GoR.nil ?_
   refine Go1.seq ?_
   refine Go1.region ?_
   refine GoR.op ((op_move rfl) _) rfl rfl ?_
   refine GoR.op ((op_len Try.underlying22 rfl) _) rfl rfl ?_
   refine GoR.op ((op_move rfl) _) rfl rfl ?_
   refine GoR.nil ?_
   refine Go1.block ?_
   refine Go1.loopW (S := Nat × List (List Int)) (fun s σ w => agrees σ [(0, .slice p_t t.length c_t), (3, .slice p20 n22 c21), (4, .int .i64 (k1_18 : Int)), (13, .int .i64 ((List.replicate t.length ([] : List Int)).length : Int)), (14, .int .i64 (k1_18 : Int)), (24, .int .i64 (t.length : Int)), (25, .int .i64 ((s.1) : Int))] ∧ Owns w0.heap.size w [t2 (Fl.int .i64) 23 3 p20 n22 c21 (hup hs23 (k1_18 : Int).toNat (p26, t.length)) (s.2)] A ∧ ISl (Rp.sl (Rp.int .i64)) (bl [t2 (Fl.int .i64) 23 3 p20 n22 c21 (hup hs23 (k1_18 : Int).toNat (p26, t.length)) (s.2)] ++ A) w p_t c_t t ∧ Fr (bl []) w0 (bl [t2 (Fl.int .i64) 23 3 p20 n22 c21 (hup hs23 (k1_18 : Int).toNat (p26, t.length)) (s.2)]) w) H ⟨⟨rfl, rfl, rfl, rfl, rfl, rfl, rfl, trivial⟩, hO, h_t, hB⟩ ?_
   rintro X2 ⟨k2_43, o2_44⟩ H hX2 σ w42 ⟨hag, hO, h_t, hB⟩
   dsimp only at H
   refine Go1.keep [(0, .slice p_t t.length c_t), (3, .slice p20 n22 c21), (4, .int .i64 (k1_18 : Int)), (13, .int .i64 ((List.replicate t.length ([] : List Int)).length : Int)), (14, .int .i64 (k1_18 : Int)), (24, .int .i64 (t.length : Int)), (25, .int .i64 (k2_43 : Int))] hag ?_
   refine Go1.seq ?_
   refine Go1.region ?_
   by_cases h45 : (k2_43 : Int) < (t.length : Int)
   ·replace H := ifp h45 H
    refine GoR.op ((fun w => opB (op_lss rfl rfl w) (decide_eq_true h45)) _) rfl rfl ?_
    refine GoR.nil ?_
    refine Go1.seq ?_
    refine Go1.condT rfl rfl ?_
    refine Go1.skip ?_
    refine Go1.seq ?_
    refine Go1.block ?_
    refine Go1.seq ?_
    refine Go1.region ?_
    refine GoR.op ((op_move rfl) _) rfl rfl ?_
    refine GoR.op ((op_assign rfl) _) rfl rfl ?_
    refine GoR.nil ?_
    refine Go1.drawS 1 [(0, .pure), (1, .pure), (2, .pure), (3, .stable), (4, .pure), (5, .pure), (6, .pure), (7, .pure), (8, .stable), (9, .pure), (10, .pure), (11, .stable), (12, .pure), (13, .last)] mixed (by kernel_rfl) ?_
    intro w46 hs47
    have hst48 := Stp.same hO hs47
    replace hO := hst48.own
    replace h_t := h_t.ch hst48.ch
    replace hB := hB.trans hst48.fr
    refine GoQ.pure rfl (op_move rfl) rfl rfl ?_
    refine GoQ.pure rfl (op_move rfl) rfl rfl ?_
    obtain ⟨h49, H⟩ := H
    obtain ⟨h50, H⟩ := H
    refine GoQ.pure rfl (op_index Try.underlying22 ti23 rfl rfl h49 (ltn (t2neq 0 hO rfl) h50) (t2some 0 hO rfl h49 h50)) rfl rfl ?_
    refine GoQ.stable rfl (t2head 0 hO rfl h49 h50 Try.underlying23 rfl rfl) rfl rfl ?_
    refine GoQ.pure rfl (op_move rfl) rfl rfl ?_
    refine GoQ.pure rfl (op_move rfl) rfl rfl ?_
    refine GoQ.pure rfl (op_move rfl) rfl rfl ?_
    obtain ⟨h51, H⟩ := H
    obtain ⟨h52, H⟩ := H
    refine GoQ.pure rfl (op_index Try.underlying22 ti23 rfl rfl h51 h52 (h_t.some_ h51 h52)) rfl rfl ?_
    have hobt := ldSl h_t h51 h52
    obtain ⟨p53, c54, hi55, hl56⟩ := hobt
    refine GoQ.stable rfl (hl56 Try.underlying23 rfl rfl) rfl rfl ?_
    refine GoQ.pure rfl (op_move rfl) rfl rfl ?_
    obtain ⟨h57, H⟩ := H
    obtain ⟨h58, H⟩ := H
    refine GoQ.pure rfl (op_index Try.underlying23 ti3 rfl rfl h57 h58 (hi55.some_ h57 h58)) rfl rfl ?_
    refine GoQ.stable rfl (ldInt hi55 h57 h58 Try.underlying3 rfl rfl) rfl rfl ?_
    obtain ⟨h59, H⟩ := H
    obtain ⟨h60, H⟩ := H
    refine GoQ.pure rfl (op_index Try.underlying23 ti3 rfl rfl h59 h60 (t2isome 0 hO rfl h49 h50 h59 h60)) rfl rfl ?_
    have hobt := t2st (r := Rp.int .i64) (hf := (Fl.int .i64)) rfl 0 hO rfl h49 h50 h59 h60 (v := .int .i64 (ix (ix t (k2_43 : Int)) (k1_18 : Int))) (u := (ix (ix t (k2_43 : Int)) (k1_18 : Int))) rfl rfl
    obtain ⟨w61, hst62, hop63⟩ := hobt
    refine GoQ.last rfl (hop63 Try.underlying3 rfl ti3 rfl rfl) rfl rfl ?_
    replace hO := hst62.own
    replace h_t := h_t.ch hst62.ch
    replace hi55 := hi55.ch hst62.ch
    replace hB := hB.trans hst62.fr
    refine GoQ.nil ?_
    refine Go1.inBlock ?_
    refine Go1.region ?_
    refine GoR.op ((op_add rfl rfl (wrap_i64 (natbd h45 h_t.bd))) _) rfl rfl ?_
    refine GoR.op ((op_move rfl) _) rfl rfl ?_
    refine GoR.nil ?_
    exact hX2 _ H _ _ ⟨⟨rfl, rfl, rfl, rfl, rfl, rfl, rfl, trivial⟩, hO, h_t, hB⟩
   ·replace H := ifn h45 H
    refine GoR.op ((fun w => opB (op_lss rfl rfl w) (decide_eq_false h45)) _) rfl rfl ?_
    refine GoR.nil ?_
    refine Go1.seq ?_
    refine Go1.condF rfl rfl ?_
    refine Go1.exit rfl ?_
    refine Go1.inBlock ?_
    refine Go1.region ?_
    obtain ⟨h64, H⟩ := H
    refine GoR.op ((op_add rfl rfl (wrap_i64 h64)) _) rfl rfl ?_
    refine GoR.op ((op_move rfl) _) rfl rfl ?_
    refine GoR.nil ?_
    exact hX1 _ H _ _ ⟨n22, p20, c21, hup hs23 (k1_18 : Int).toNat (p26, t.length), ⟨rfl, rfl, rfl, rfl, trivial⟩, hO, h_t, hB⟩
  ·replace H := ifn h24 H
   refine GoR.op ((fun w => opB (op_lss rfl rfl w) (decide_eq_false h24)) _) rfl rfl ?_
   refine GoR.nil ?_
   refine Go1.seq ?_
   refine Go1.condF rfl rfl ?_
   refine Go1.exit rfl ?_
   refine Go1.seq ?_
   refine Go1.region ?_
   refine GoR.op ((op_move rfl) _) rfl rfl ?_
   refine GoR.op ((op_assign rfl) _) rfl rfl ?_
   refine GoR.nil ?_
   have hobt := t2freezeA 0 hO rfl
   obtain ⟨hO1, hc67, hi65, hn66⟩ := hobt
   replace h_t := h_t.ch hc67
   replace hB := hB.trans (Owns.dropFr _ _ 0)
   replace hO := hO1; clear hO1
   refine Go1.ret1 Try.func45 rfl ?_
   exact ⟨o1_19, p20, c21, ((congrArg (fun nn => Value.slice p20 nn c21) hn66)), hB.same, (hi65.ch (Ch.weak _ _ _)), H⟩
theorem body80 : Body Try.prog 80 := ⟨Try.f80, Try.func80, rfl, by kernel_rfl⟩
theorem walk_slices_Clone_int {A : List Nat} {w0 : World} {p_s : Option Addr} {c_s : Nat} {s : List Int} (hA : ∀ b ∈ A, b < w0.heap.size) (h_s : ISl (Rp.int .i64) A w0 p_s c_s s) {K : List Int → Prop} (H : slices_Clone_int s K) :
    CallsV Try.prog 80 #[.slice p_s s.length c_s] w0 (fun v w' => ∃ (r0 : List Int), ∃ (n_r0 : Nat), ∃ (p_r0 : Option Addr), ∃ (c_r0 : Nat), ∃ (vs_r0 : List Value), v = .slice p_r0 n_r0 c_r0 ∧ Same w0 w' ∧ Owns w0.heap.size w' [.row 3 1 p_r0 n_r0 c_r0 vs_r0] A ∧ Els (Rp.int .i64) (bl [.row 3 1 p_r0 n_r0 c_r0 vs_r0] ++ A) w' vs_r0 r0 ∧ K r0) := by
 refine CallsV.of (l := [.slice p_s s.length c_s]) Try.func80 rfl Try.ntmps80 rfl ?_
 have hO := Owns.start hA
 have hB := Fr.refl (bl []) w0
 unfold slices_Clone_int at H
 replace h_s := h_s.ch (Ch.start A w0)
 refine Go1.seq ?_
 refine Go1.region ?_
 refine GoR.op ((op_assign rfl) _) rfl rfl ?_
 refine GoR.nil ?_
 refine Go1.seq ?_
 refine Go1.seq ?_
 refine Go1.region ?_
 refine GoR.op ((op_move rfl) _) rfl rfl ?_
 replace H := H p_s.isNone (fun h => h_s.nilD h)
 by_cases hz2 : p_s.isNone = true
 ·replace H := ifp hz2 H
  refine GoR.op ((fun w => opB (op_nilSlice Try.underlying23 rfl rfl w) (hz2)) _) rfl rfl ?_
  refine GoR.nil ?_
  refine Go1.condT rfl rfl ?_
  refine Go1.seq ?_
  refine Go1.region ?_
  refine GoR.op ((op_assign rfl) _) rfl rfl ?_
  refine GoR.nil ?_
  have hst4 := Stp.nil (e := 3) (r := 1) hO
  replace hO := hst4.own
  replace h_s := h_s.ch hst4.ch
  replace hB := hB.trans hst4.fr
  have hE5 := Els.nil (Rp.int .i64) (bl (.row 3 1 none 0 0 [] :: []) ++ A) w0
  refine Go1.ret1 Try.func80 rfl ?_
  exact ⟨(([] : List Int)), 0, none, 0, ([]), rfl, hB.same, hO, hE5, H⟩
 ·replace H := ifn hz2 H
  refine GoR.op ((fun w => opB (op_nilSlice Try.underlying23 rfl rfl w) (Bool.eq_false_iff.2 hz2)) _) rfl rfl ?_
  refine GoR.nil ?_
  refine Go1.condF rfl rfl ?_
  refine Go1.skip ?_
  refine Go1.seq ?_
  refine Go1.region ?_
  have hobt := obuild (r := Rp.int .i64) (n := 0) (parts := []) (vs := []) (xs := ([] : List Int)) rfl Try.underlying23 ti3 hO (by decide) (by kernel_rfl) (Els.nil _ _ _) rfl
  obtain ⟨w6, p7, hst8, hE9, hs10, hop11⟩ := hobt
  refine GoR.op (hop11 rfl) rfl rfl ?_
  replace hO := hst8.own
  replace h_s := h_s.ch hst8.ch
  replace hB := hB.trans hst8.fr
  refine GoR.op ((op_move rfl) _) rfl rfl ?_
  obtain ⟨h13, H⟩ := H
  have hobt := oapp Try.underlying23 ti3 rfl 0 hO rfl hE9 h_s rfl h13 (by decide)
  obtain ⟨w14, p15, c16, vs17, hst18, hE19, hop20⟩ := hobt
  refine GoR.op (hop20 rfl rfl) rfl rfl ?_
  replace hO := hst18.own
  replace h_s := h_s.ch hst18.ch
  replace hB := hB.trans hst18.fr
  refine GoR.op ((op_assign rfl) _) rfl rfl ?_
  refine GoR.nil ?_
  refine Go1.ret1 Try.func80 rfl ?_
  exact ⟨((([] : List Int)) ++ s), (0 + s.length), p15, c16, vs17, rfl, hB.same, hO, hE19, H⟩
theorem body46 : Body Try.prog 46 := ⟨Try.f46, Try.func46, rfl, by kernel_rfl⟩
theorem walk_mult_Adjoin {A : List Nat} {w0 : World} {p_t : Option Addr} {c_t : Nat} {t : List (List Int)} (hA : ∀ b ∈ A, b < w0.heap.size) (h_t : ISl (Rp.sl (Rp.int .i64)) A w0 p_t c_t t) {K : List (List Int) → Prop} (H : mult_Adjoin t K) :
    CallsV Try.prog 46 #[.slice p_t t.length c_t] w0 (fun v w' => ∃ (r0 : List (List Int)), ∃ (p_r0 : Option Addr), ∃ (c_r0 : Nat), v = .slice p_r0 r0.length c_r0 ∧ Same w0 w' ∧ ISl (Rp.sl (Rp.int .i64)) A w' p_r0 c_r0 r0 ∧ K r0) := by
 refine CallsV.of (l := [.slice p_t t.length c_t]) Try.func46 rfl Try.ntmps46 rfl ?_
 have hO := Owns.start hA
 have hB := Fr.refl (bl []) w0
 unfold mult_Adjoin at H
 replace h_t := h_t.ch (Ch.start A w0)
 refine Go1.seq ?_
 refine Go1.region ?_
 refine GoR.op ((op_assign rfl) _) rfl rfl ?_
 refine GoR.nil ?_
 refine Go1.seq ?_
 refine Go1.seq ?_
 refine Go1.region ?_
 refine GoR.op ((op_move rfl) _) rfl rfl ?_
 refine GoR.op ((op_len Try.underlying22 rfl) _) rfl rfl ?_
 replace H := H h_t.bd
 by_cases h1 : (400 : Int) ≤ (t.length : Int)
 ·replace H := ifp h1 H
  refine GoR.op ((fun w => opB (op_geq rfl rfl w) (decide_eq_true h1)) _) rfl rfl ?_
  refine GoR.op ((op_move rfl) _) rfl rfl ?_
  refine GoR.pass rfl rfl ?_
  refine GoR.pass rfl rfl ?_
  refine GoR.pass rfl rfl ?_
  refine GoR.op ((op_pickT rfl rfl rfl) _) rfl rfl ?_
  refine GoR.nil ?_
  refine Go1.condT rfl rfl ?_
  refine Go1.seq ?_
  refine Go1.region ?_
  refine GoR.op ((op_assign rfl) _) rfl rfl ?_
  refine GoR.nil ?_
  refine Go1.ret1 Try.func46 rfl ?_
  exact ⟨([] : List (List Int)), none, 0, rfl, hB.same, (ISl.null _ _ _), H⟩
 ·replace H := ifn h1 H
  refine GoR.op ((fun w => opB (op_geq rfl rfl w) (decide_eq_false h1)) _) rfl rfl ?_
  refine GoR.op ((op_move rfl) _) rfl rfl ?_
  refine GoR.op ((op_move rfl) _) rfl rfl ?_
  refine GoR.call (op_call body71 rfl (walk_mult_valid hO.lt h_t H)) rfl rfl ?_
  rintro v6 w3 ⟨r2, rfl, hs4, H⟩
  have hst7 := Stp.same hO hs4
  replace hO := hst7.own
  replace h_t := h_t.ch hst7.ch
  replace hB := hB.trans hst7.fr
  cases r2
  ·replace H := ifn Bool.false_ne_true H
   refine GoR.op ((op_not rfl) _) rfl rfl ?_
   refine GoR.op ((op_pickF rfl rfl rfl) _) rfl rfl ?_
   refine GoR.nil ?_
   refine Go1.condT rfl rfl ?_
   refine Go1.seq ?_
   refine Go1.region ?_
   refine GoR.op ((op_assign rfl) _) rfl rfl ?_
   refine GoR.nil ?_
   refine Go1.ret1 Try.func46 rfl ?_
   exact ⟨([] : List (List Int)), none, 0, rfl, hB.same, (ISl.null _ _ _), H⟩
  ·replace H := ifp rfl H
   refine GoR.op ((op_not rfl) _) rfl rfl ?_
   refine GoR.op ((op_pickF rfl rfl rfl) _) rfl rfl ?_
   refine GoR.nil ?_
   refine Go1.condF rfl rfl ?_
   refine Go1.skip ?_
   refine Go1.seq ?_
   refine Go1.region ?_
   refine GoR.op ((op_move rfl) _) rfl rfl ?_
   refine GoR.op ((op_len Try.underlying22 rfl) _) rfl rfl ?_
   obtain ⟨h8, H⟩ := H
   refine GoR.op ((op_add rfl rfl (wrap_i64 h8)) _) rfl rfl ?_
   obtain ⟨h16, H⟩ := H
   obtain ⟨h17, H⟩ := H
   have hobt := omake0 (n := (t.length + 1 : Int)) (r := Rp.sl (Rp.int .i64)) Try.underlying22 ti23 hO h16 h17 (by decide)
   obtain ⟨w9, p10, hst12, hE13, hs14, hop15⟩ := hobt
   refine GoR.op (hop15 rfl rfl) rfl rfl ?_
   replace hO := hst12.own
   replace h_t := h_t.ch hst12.ch
   replace hB := hB.trans hst12.fr
   refine GoR.op ((op_assign rfl) _) rfl rfl ?_
   refine GoR.nil ?_
   refine Go1.seq ?_
   refine Go1.seq ?_
   refine Go1.region ?_
   refine GoR.op ((op_move rfl) _) rfl rfl ?_
   refine GoR.op ((op_len Try.underlying22 rfl) _) rfl rfl ?_
   refine GoR.op ((op_move rfl) _) rfl rfl ?_
   refine GoR.nil ?_
   refine Go1.block ?_
   refine Go1.loopW (S := Nat × List (List Int)) (fun s σ w => ∃ (n26 : Nat), ∃ (p24 : Option Addr), ∃ (c25 : Nat), ∃ (vs22 : List Value), agrees σ [(0, .slice p_t t.length c_t), (3, .slice p24 n26 c25), (18, .slice p_t t.length c_t), (19, .int .i64 (t.length : Int)), (20, .int .i64 ((s.1) : Int))] ∧ Owns w0.heap.size w [.row 23 1 p24 n26 c25 vs22] A ∧ Els (Rp.sl (Rp.int .i64)) (bl [.row 23 1 p24 n26 c25 vs22] ++ A) w vs22 (s.2) ∧ ISl (Rp.sl (Rp.int .i64)) (bl [.row 23 1 p24 n26 c25 vs22] ++ A) w p_t c_t t ∧ Fr (bl []) w0 (bl [.row 23 1 p24 n26 c25 vs22]) w) H ⟨0, p10, t.length + 1, [], ⟨rfl, rfl, rfl, rfl, rfl, trivial⟩, hO, hE13, h_t, hB⟩ ?_
   rintro X1 ⟨k1_20, a1_21⟩ H hX1 σ w19 ⟨n26, p24, c25, vs22, hag, hO, hE23, h_t, hB⟩
   dsimp only at H
   refine Go1.keep [(0, .slice p_t t.length c_t), (3, .slice p24 n26 c25), (18, .slice p_t t.length c_t), (19, .int .i64 (t.length : Int)), (20, .int .i64 (k1_20 : Int))] hag ?_
   refine Go1.seq ?_
   refine Go1.region ?_
   by_cases h27 : (k1_20 : Int) < (t.length : Int)
   ·replace H := ifp h27 H
    refine GoR.op ((fun w => opB (op_lss rfl rfl w) (decide_eq_true h27)) _) rfl rfl ?_
    refine GoR.nil ?_
    refine Go1.seq ?_
    refine Go1.condT rfl rfl ?_
    refine Go1.skip ?_
    refine Go1.seq ?_
    refine Go1.block ?_
    refine Go1.seq ?_
    refine Go1.region ?_
    refine GoR.op ((op_move rfl) _) rfl rfl ?_
    obtain ⟨h28, H⟩ := H
    obtain ⟨h29, H⟩ := H
    refine GoR.op ((op_index Try.underlying22 ti23 rfl rfl h28 h29 (h_t.some_ h28 h29)) _) rfl rfl ?_
    have hobt := ldSl h_t h28 h29
    obtain ⟨p30, c31, hi32, hl33⟩ := hobt
    refine GoR.op ((hl33 Try.underlying23 rfl rfl) _ (Same.refl _)) rfl rfl ?_
    refine GoR.op ((op_assign rfl) _) rfl rfl ?_
    refine GoR.op ((op_assign rfl) _) rfl rfl ?_
    refine GoR.nil ?_
    refine Go1.region ?_
    refine GoR.op ((op_move rfl) _) rfl rfl ?_
    refine GoR.op ((op_move rfl) _) rfl rfl ?_
    refine GoR.call (op_call body80 rfl (walk_slices_Clone_int hO.lt hi32 H)) rfl rfl ?_
    rintro v39 w36 ⟨r34, n_r34, p_r34, c_r34, vs_r34, rfl, hs37, hN38, hE35, H⟩
    have hst40 := Stp.more hO hs37 hN38
    replace hE23 := hE23.ch hst40.ch
    replace hO := hst40.own
    replace h_t := h_t.ch hst40.ch
    replace hi32 := hi32.ch hst40.ch
    replace hB := hB.trans hst40.fr
    replace hE35 := hE35.ch (Ch.assoc _ _ _ _)
    refine GoR.op ((op_move rfl) _) rfl rfl ?_
    have hobt := obuild (r := Rp.int .i64) (n := 1) (parts := [(0, .int .i64 (k1_20 : Int))]) (vs := [.int .i64 (k1_20 : Int)]) (xs := [(k1_20 : Int)]) rfl Try.underlying23 ti3 hO (by decide) (by kernel_rfl) (Els.cons rfl rfl (Els.nil _ _ _) (by simp [mx])) rfl
    obtain ⟨w42, p43, hst44, hE45, hs46, hop47⟩ := hobt
    refine GoR.op (hop47 rfl) rfl rfl ?_
    replace hE35 := hE35.ch hst44.ch
    replace hE23 := hE23.ch hst44.ch
    replace hO := hst44.own
    replace h_t := h_t.ch hst44.ch
    replace hi32 := hi32.ch hst44.ch
    replace hB := hB.trans hst44.fr
    have hobt := freeze 0 hO rfl hE45
    obtain ⟨hO1, hc51, hi49, hn50⟩ := hobt
    replace h_t := h_t.ch hc51
    replace hi32 := hi32.ch hc51
    replace hE35 := hE35.ch hc51
    replace hE23 := hE23.ch hc51
    replace hB := hB.trans (Owns.dropFr _ _ 0)
    replace hO := hO1; clear hO1
    obtain ⟨h52, H⟩ := H
    have hobt := oapp Try.underlying23 ti3 rfl 0 hO rfl hE35 hi49 hn50 h52 (by decide)
    obtain ⟨w53, p54, c55, vs56, hst57, hE58, hop59⟩ := hobt
    refine GoR.op (hop59 rfl rfl) rfl rfl ?_
    replace hE23 := hE23.ch hst57.ch
    replace hO := hst57.own
    replace h_t := h_t.ch hst57.ch
    replace hi32 := hi32.ch hst57.ch
    replace hi49 := hi49.ch hst57.ch
    replace hB := hB.trans hst57.fr
    have hobt := freeze 0 hO rfl hE58
    obtain ⟨hO1, hc63, hi61, hn62⟩ := hobt
    replace h_t := h_t.ch hc63
    replace hi32 := hi32.ch hc63
    replace hi49 := hi49.ch hc63
    replace hE23 := hE23.ch hc63
    replace hB := hB.trans (Owns.dropFr _ _ 0)
    replace hO := hO1; clear hO1
    have hobt := obuild (r := Rp.sl (Rp.int .i64)) (n := 1) (parts := [(0, .slice p54 (n_r34 + 1) c55)]) (vs := [.slice p54 (n_r34 + 1) c55]) (xs := [r34 ++ ([(k1_20 : Int)])]) rfl Try.underlying22 ti23 hO (by decide) (by kernel_rfl) (Els.cons rfl ⟨p54, c55, congrArg some (congrArg (fun nn => Value.slice p54 nn c55) hn62), hi61⟩ (Els.nil _ _ _) (by simp [mx])) rfl
    obtain ⟨w64, p65, hst66, hE67, hs68, hop69⟩ := hobt
    refine GoR.op (hop69 rfl) rfl rfl ?_
    replace hE23 := hE23.ch hst66.ch
    replace hO := hst66.own
    replace h_t := h_t.ch hst66.ch
    replace hi32 := hi32.ch hst66.ch
    replace hi49 := hi49.ch hst66.ch
    replace hi61 := hi61.ch hst66.ch
    replace hB := hB.trans hst66.fr
    have hobt := freeze 0 hO rfl hE67
    obtain ⟨hO1, hc73, hi71, hn72⟩ := hobt
    replace h_t := h_t.ch hc73
    replace hi32 := hi32.ch hc73
    replace hi49 := hi49.ch hc73
    replace hi61 := hi61.ch hc73
    replace hE23 := hE23.ch hc73
    replace hB := hB.trans (Owns.dropFr _ _ 0)
    replace hO := hO1; clear hO1
    obtain ⟨h74, H⟩ := H
    have hobt := oapp Try.underlying22 ti23 rfl 0 hO rfl hE23 hi71 hn72 h74 (by decide)
    obtain ⟨w75, p76, c77, vs78, hst79, hE80, hop81⟩ := hobt
    refine GoR.op (hop81 rfl rfl) rfl rfl ?_
    replace hO := hst79.own
    replace h_t := h_t.ch hst79.ch
    replace hi32 := hi32.ch hst79.ch
    replace hi49 := hi49.ch hst79.ch
    replace hi61 := hi61.ch hst79.ch
    replace hi71 := hi71.ch hst79.ch
    replace hB := hB.trans hst79.fr
    refine GoR.op ((op_assign rfl) _) rfl rfl ?_
    refine GoR.nil ?_
    refine Go1.inBlock ?_
    refine Go1.region ?_
    refine GoR.op ((op_add rfl rfl (wrap_i64 (natbd h27 h_t.bd))) _) rfl rfl ?_
    refine GoR.op ((op_move rfl) _) rfl rfl ?_
    refine GoR.nil ?_
    exact hX1 _ H _ _ ⟨n26 + 1, p76, c77, vs78, ⟨rfl, rfl, rfl, rfl, rfl, trivial⟩, hO, hE80, h_t, hB⟩
   ·replace H := ifn h27 H
    refine GoR.op ((fun w => opB (op_lss rfl rfl w) (decide_eq_false h27)) _) rfl rfl ?_
    refine GoR.nil ?_
    refine Go1.seq ?_
    refine Go1.condF rfl rfl ?_
    refine Go1.exit rfl ?_
    refine Go1.seq ?_
    refine Go1.region ?_
    refine GoR.op ((op_move rfl) _) rfl rfl ?_
    refine GoR.op ((op_move rfl) _) rfl rfl ?_
    refine GoR.call (op_call body73 rfl (walk_mult_elements hO.lt h_t H)) rfl rfl ?_
    rintro v88 w85 ⟨r83, n_r83, p_r83, c_r83, vs_r83, rfl, hs86, hN87, hE84, H⟩
    have hst89 := Stp.more hO hs86 hN87
    replace hE23 := hE23.ch hst89.ch
    replace hO := hst89.own
    replace h_t := h_t.ch hst89.ch
    replace hB := hB.trans hst89.fr
    replace hE84 := hE84.ch (Ch.assoc _ _ _ _)
    refine GoR.op ((op_move rfl) _) rfl rfl ?_
    refine GoR.op ((op_len Try.underlying22 rfl) _) rfl rfl ?_
    have hobt := obuild (r := Rp.int .i64) (n := 1) (parts := [(0, .int .i64 (t.length : Int))]) (vs := [.int .i64 (t.length : Int)]) (xs := [(t.length : Int)]) rfl Try.underlying23 ti3 hO (by decide) (by kernel_rfl) (Els.cons rfl rfl (Els.nil _ _ _) (by simp [mx])) rfl
    obtain ⟨w91, p92, hst93, hE94, hs95, hop96⟩ := hobt
    refine GoR.op (hop96 rfl) rfl rfl ?_
    replace hE84 := hE84.ch hst93.ch
    replace hE23 := hE23.ch hst93.ch
    replace hO := hst93.own
    replace h_t := h_t.ch hst93.ch
    replace hB := hB.trans hst93.fr
    have hobt := freeze 0 hO rfl hE94
    obtain ⟨hO1, hc100, hi98, hn99⟩ := hobt
    replace h_t := h_t.ch hc100
    replace hE84 := hE84.ch hc100
    replace hE23 := hE23.ch hc100
    replace hB := hB.trans (Owns.dropFr _ _ 0)
    replace hO := hO1; clear hO1
    obtain ⟨h101, H⟩ := H
    have hobt := oapp Try.underlying23 ti3 rfl 0 hO rfl hE84 hi98 hn99 h101 (by decide)
    obtain ⟨w102, p103, c104, vs105, hst106, hE107, hop108⟩ := hobt
    refine GoR.op (hop108 rfl rfl) rfl rfl ?_
    replace hE23 := hE23.ch hst106.ch
    replace hO := hst106.own
    replace h_t := h_t.ch hst106.ch
    replace hi98 := hi98.ch hst106.ch
    replace hB := hB.trans hst106.fr
    have hobt := freeze 0 hO rfl hE107
    obtain ⟨hO1, hc112, hi110, hn111⟩ := hobt
    replace h_t := h_t.ch hc112
    replace hi98 := hi98.ch hc112
    replace hE23 := hE23.ch hc112
    replace hB := hB.trans (Owns.dropFr _ _ 0)
    replace hO := hO1; clear hO1
    have hobt := obuild (r := Rp.sl (Rp.int .i64)) (n := 1) (parts := [(0, .slice p103 (n_r83 + 1) c104)]) (vs := [.slice p103 (n_r83 + 1) c104]) (xs := [r83 ++ ([(t.length : Int)])]) rfl Try.underlying22 ti23 hO (by decide) (by kernel_rfl) (Els.cons rfl ⟨p103, c104, congrArg some (congrArg (fun nn => Value.slice p103 nn c104) hn111), hi110⟩ (Els.nil _ _ _) (by simp [mx])) rfl
    obtain ⟨w113, p114, hst115, hE116, hs117, hop118⟩ := hobt
    refine GoR.op (hop118 rfl) rfl rfl ?_
    replace hE23 := hE23.ch hst115.ch
    replace hO := hst115.own
    replace h_t := h_t.ch hst115.ch
    replace hi98 := hi98.ch hst115.ch
    replace hi110 := hi110.ch hst115.ch
    replace hB := hB.trans hst115.fr
    have hobt := freeze 0 hO rfl hE116
    obtain ⟨hO1, hc122, hi120, hn121⟩ := hobt
    replace h_t := h_t.ch hc122
    replace hi98 := hi98.ch hc122
    replace hi110 := hi110.ch hc122
    replace hE23 := hE23.ch hc122
    replace hB := hB.trans (Owns.dropFr _ _ 0)
    replace hO := hO1; clear hO1
    obtain ⟨h123, H⟩ := H
    have hobt := oapp Try.underlying22 ti23 rfl 0 hO rfl hE23 hi120 hn121 h123 (by decide)
    obtain ⟨w124, p125, c126, vs127, hst128, hE129, hop130⟩ := hobt
    refine GoR.op (hop130 rfl rfl) rfl rfl ?_
    replace hO := hst128.own
    replace h_t := h_t.ch hst128.ch
    replace hi98 := hi98.ch hst128.ch
    replace hi110 := hi110.ch hst128.ch
    replace hi120 := hi120.ch hst128.ch
    replace hB := hB.trans hst128.fr
    refine GoR.op ((op_assign rfl) _) rfl rfl ?_
    refine GoR.nil ?_
    have hobt := freeze 0 hO rfl hE129
    obtain ⟨hO1, hc134, hi132, hn133⟩ := hobt
    replace h_t := h_t.ch hc134
    replace hi98 := hi98.ch hc134
    replace hi110 := hi110.ch hc134
    replace hi120 := hi120.ch hc134
    replace hB := hB.trans (Owns.dropFr _ _ 0)
    replace hO := hO1; clear hO1
    refine Go1.ret1 Try.func46 rfl ?_
    exact ⟨a1_21 ++ ([r83 ++ ([(t.length : Int)])]), p125, c126, ((congrArg (fun nn => Value.slice p125 nn c126) hn133)), hB.same, (hi132.ch (Ch.weak _ _ _)), H⟩
theorem body47 : Body Try.prog 47 := ⟨Try.f47, Try.func47, rfl, by kernel_rfl⟩
theorem walk_ref03_SameRows {A : List Nat} {w0 : World} {p_a : Option Addr} {c_a : Nat} {p_b : Option Addr} {c_b : Nat} {a : List (List Int)} {b : List (List Int)} (hA : ∀ b ∈ A, b < w0.heap.size) (h_a : ISl (Rp.sl (Rp.int .i64)) A w0 p_a c_a a) (h_b : ISl (Rp.sl (Rp.int .i64)) A w0 p_b c_b b) {K : Bool → Prop} (H : ref03_SameRows a b K) :
    CallsV Try.prog 47 #[.slice p_a a.length c_a, .slice p_b b.length c_b] w0 (fun v w' => ∃ (r0 : Bool), v = .bool r0 ∧ Same w0 w' ∧ K r0) := by
 refine CallsV.of (l := [.slice p_a a.length c_a, .slice p_b b.length c_b]) Try.func47 rfl Try.ntmps47 rfl ?_
 have hO := Owns.start hA
 have hB := Fr.refl (bl []) w0
 unfold ref03_SameRows at H
 replace h_a := h_a.ch (Ch.start A w0)
 replace h_b := h_b.ch (Ch.start A w0)
 refine Go1.seq ?_
 refine Go1.region ?_
 refine GoR.op ((op_assign rfl) _) rfl rfl ?_
 refine GoR.nil ?_
 refine Go1.seq ?_
 refine Go1.seq ?_
 refine Go1.region ?_
 refine GoR.op ((op_move rfl) _) rfl rfl ?_
 refine GoR.op ((op_len Try.underlying22 rfl) _) rfl rfl ?_
 replace H := H h_a.bd
 refine GoR.op ((op_move rfl) _) rfl rfl ?_
 refine GoR.op ((op_len Try.underlying22 rfl) _) rfl rfl ?_
 replace H := H h_b.bd
 by_cases h1 : (a.length : Int) = (b.length : Int)
 ·replace H := ifp h1 H
  refine GoR.op ((fun w => opB (op_neq rfl rfl w) (ndT h1)) _) rfl rfl ?_
  refine GoR.nil ?_
  refine Go1.condF rfl rfl ?_
  refine Go1.skip ?_
  refine Go1.seq ?_
  refine Go1.seq ?_
  refine Go1.region ?_
  refine GoR.op ((op_move rfl) _) rfl rfl ?_
  refine GoR.op ((op_len Try.underlying22 rfl) _) rfl rfl ?_
  refine GoR.op ((op_move rfl) _) rfl rfl ?_
  refine GoR.nil ?_
  refine Go1.block ?_
  refine Go1.loopW (S := Nat) (fun s σ w => agrees σ [(0, .slice p_a a.length c_a), (1, .slice p_b b.length c_b), (12, .int .i64 (a.length : Int)), (13, .int .i64 (s : Int))] ∧ Owns w0.heap.size w [] A ∧ ISl (Rp.sl (Rp.int .i64)) (bl [] ++ A) w p_a c_a a ∧ ISl (Rp.sl (Rp.int .i64)) (bl [] ++ A) w p_b c_b b ∧ Fr (bl []) w0 (bl []) w) H ⟨⟨rfl, rfl, rfl, rfl, trivial⟩, hO, h_a, h_b, hB⟩ ?_
  rintro X1 k1_3 H hX1 σ w2 ⟨hag, hO, h_a, h_b, hB⟩
  refine Go1.keep [(0, .slice p_a a.length c_a), (1, .slice p_b b.length c_b), (12, .int .i64 (a.length : Int)), (13, .int .i64 (k1_3 : Int))] hag ?_
  refine Go1.seq ?_
  refine Go1.region ?_
  by_cases h4 : (k1_3 : Int) < (a.length : Int)
  ·replace H := ifp h4 H
   refine GoR.op ((fun w => opB (op_lss rfl rfl w) (decide_eq_true h4)) _) rfl rfl ?_
   refine GoR.nil ?_
   refine Go1.seq ?_
   refine Go1.condT rfl rfl ?_
   refine Go1.skip ?_
   refine Go1.seq ?_
   refine Go1.block ?_
   refine Go1.seq ?_
   refine Go1.region ?_
   refine GoR.op ((op_move rfl) _) rfl rfl ?_
   refine GoR.op ((op_assign rfl) _) rfl rfl ?_
   refine GoR.nil ?_
   refine Go1.seq ?_
   refine Go1.drawS 0 [(0, .pure), (1, .pure), (2, .pure), (3, .stable), (4, .pure), (5, .pure), (6, .pure), (7, .stable), (8, .loud), (9, .pure)] mixed (by kernel_rfl) ?_
   intro w5 hs6
   have hst7 := Stp.same hO hs6
   replace hO := hst7.own
   replace h_a := h_a.ch hst7.ch
   replace h_b := h_b.ch hst7.ch
   replace hB := hB.trans hst7.fr
   refine GoQ.pure rfl (op_move rfl) rfl rfl ?_
   refine GoQ.pure rfl (op_move rfl) rfl rfl ?_
   obtain ⟨h8, H⟩ := H
   obtain ⟨h9, H⟩ := H
   refine GoQ.pure rfl (op_index Try.underlying22 ti23 rfl rfl h8 h9 (h_a.some_ h8 h9)) rfl rfl ?_
   have hobt := ldSl h_a h8 h9
   obtain ⟨p10, c11, hi12, hl13⟩ := hobt
   refine GoQ.stable rfl (hl13 Try.underlying23 rfl rfl) rfl rfl ?_
   refine GoQ.pure rfl (op_move rfl) rfl rfl ?_
   refine GoQ.pure rfl (op_move rfl) rfl rfl ?_
   obtain ⟨h14, H⟩ := H
   obtain ⟨h15, H⟩ := H
   refine GoQ.pure rfl (op_index Try.underlying22 ti23 rfl rfl h14 h15 (h_b.some_ h14 h15)) rfl rfl ?_
   have hobt := ldSl h_b h14 h15
   obtain ⟨p16, c17, hi18, hl19⟩ := hobt
   refine GoQ.stable rfl (hl19 Try.underlying23 rfl rfl) rfl rfl ?_
   refine GoQ.call rfl (op_call body40 rfl (walk_ref03_Same hO.lt hi12 hi18 H)) (fun v w hr => by obtain ⟨_, _, hs, _⟩ := hr; assumption) rfl rfl ?_
   rintro v24 w21 ⟨r20, rfl, hs22, H⟩
   have hst25 := Stp.same hO hs22
   replace hO := hst25.own
   replace h_a := h_a.ch hst25.ch
   replace h_b := h_b.ch hst25.ch
   replace hi12 := hi12.ch hst25.ch
   replace hi18 := hi18.ch hst25.ch
   replace hB := hB.trans hst25.fr
   cases r20
   ·replace H := ifn Bool.false_ne_true H
    refine GoQ.pure rfl (op_not rfl) rfl rfl ?_
    refine GoQ.nil ?_
    refine Go1.condT rfl rfl ?_
    refine Go1.seq ?_
    refine Go1.region ?_
    refine GoR.op ((op_assign rfl) _) rfl rfl ?_
    refine GoR.nil ?_
    refine Go1.ret1 Try.func47 rfl ?_
    exact ⟨false, rfl, hB.same, H⟩
   ·replace H := ifp rfl H
    refine GoQ.pure rfl (op_not rfl) rfl rfl ?_
    refine GoQ.nil ?_
    refine Go1.condF rfl rfl ?_
    refine Go1.skip ?_
    refine Go1.inBlock ?_
    refine Go1.region ?_
    refine GoR.op ((op_add rfl rfl (wrap_i64 (natbd h4 h_a.bd))) _) rfl rfl ?_
    refine GoR.op ((op_move rfl) _) rfl rfl ?_
    refine GoR.nil ?_
    exact hX1 _ H _ _ ⟨⟨rfl, rfl, rfl, rfl, trivial⟩, hO, h_a, h_b, hB⟩
  ·replace H := ifn h4 H
   refine GoR.op ((fun w => opB (op_lss rfl rfl w) (decide_eq_false h4)) _) rfl rfl ?_
   refine GoR.nil ?_
   refine Go1.seq ?_
   refine Go1.condF rfl rfl ?_
   refine Go1.exit rfl ?_
   refine Go1.seq ?_
   refine Go1.region ?_
   refine GoR.op ((op_assign rfl) _) rfl rfl ?_
   refine GoR.nil ?_
   refine Go1.ret1 Try.func47 rfl ?_
   exact ⟨true, rfl, hB.same, H⟩
 ·replace H := ifn h1 H
  refine GoR.op ((fun w => opB (op_neq rfl rfl w) (ndF h1)) _) rfl rfl ?_
  refine GoR.nil ?_
  refine Go1.condT rfl rfl ?_
  refine Go1.seq ?_
  refine Go1.region ?_
  refine GoR.op ((op_assign rfl) _) rfl rfl ?_
  refine GoR.nil ?_
  refine Go1.ret1 Try.func47 rfl ?_
  exact ⟨false, rfl, hB.same, H⟩
theorem body50 : Body Try.prog 50 := ⟨Try.f50, Try.func50, rfl, by kernel_rfl⟩
theorem walk_ref14_Direct {A : List Nat} {w0 : World} {p_t : Option Addr} {c_t : Nat} {p_u : Option Addr} {c_u : Nat} {t : List (List Int)} {u : List (List Int)} (hA : ∀ b ∈ A, b < w0.heap.size) (h_t : ISl (Rp.sl (Rp.int .i64)) A w0 p_t c_t t) (h_u : ISl (Rp.sl (Rp.int .i64)) A w0 p_u c_u u) {K : List (List Int) → Prop} (H : ref14_Direct t u K) :
    CallsV Try.prog 50 #[.slice p_t t.length c_t, .slice p_u u.length c_u] w0 (fun v w' => ∃ (r0 : List (List Int)), ∃ (p_r0 : Option Addr), ∃ (c_r0 : Nat), v = .slice p_r0 r0.length c_r0 ∧ Same w0 w' ∧ ISl (Rp.sl (Rp.int .i64)) A w' p_r0 c_r0 r0 ∧ K r0) := by
 refine CallsV.of (l := [.slice p_t t.length c_t, .slice p_u u.length c_u]) Try.func50 rfl Try.ntmps50 rfl ?_
 have hO := Owns.start hA
 have hB := Fr.refl (bl []) w0
 unfold ref14_Direct at H
 replace h_t := h_t.ch (Ch.start A w0)
 replace h_u := h_u.ch (Ch.start A w0)
 refine Go1.seq ?_
 refine Go1.region ?_
 refine GoR.op ((op_assign rfl) _) rfl rfl ?_
 refine GoR.nil ?_
 refine Go1.seq ?_
 refine Go1.region ?_
 refine GoR.op ((op_assign rfl) _) rfl rfl ?_
 refine GoR.nil ?_
 refine Go1.seq ?_
 refine Go1.seq ?_
 refine Go1.region ?_
 refine GoR.op ((op_move rfl) _) rfl rfl ?_
 refine GoR.op ((op_len Try.underlying22 rfl) _) rfl rfl ?_
 replace H := H h_t.bd
 refine GoR.op ((op_move rfl) _) rfl rfl ?_
 refine GoR.nil ?_
 refine Go1.block ?_
 have hst2 := Stp.nil (e := 23) (r := 1) hO
 replace hO := hst2.own
 replace h_t := h_t.ch hst2.ch
 replace h_u := h_u.ch hst2.ch
 replace hB := hB.trans hst2.fr
 have hE3 := Els.nil (Rp.sl (Rp.int .i64)) (bl (.row 23 1 none 0 0 [] :: []) ++ A) w0
 refine Go1.loopW (S := Nat × List (List Int)) (fun s σ w => ∃ (n11 : Nat), ∃ (p9 : Option Addr), ∃ (c10 : Nat), ∃ (vs7 : List Value), agrees σ [(0, .slice p_t t.length c_t), (1, .slice p_u u.length c_u), (5, .slice p9 n11 c10), (12, .int .i64 (t.length : Int)), (13, .int .i64 ((s.1) : Int))] ∧ Owns w0.heap.size w [.row 23 1 p9 n11 c10 vs7] A ∧ Els (Rp.sl (Rp.int .i64)) (bl [.row 23 1 p9 n11 c10 vs7] ++ A) w vs7 (s.2) ∧ ISl (Rp.sl (Rp.int .i64)) (bl [.row 23 1 p9 n11 c10 vs7] ++ A) w p_t c_t t ∧ ISl (Rp.sl (Rp.int .i64)) (bl [.row 23 1 p9 n11 c10 vs7] ++ A) w p_u c_u u ∧ Fr (bl []) w0 (bl [.row 23 1 p9 n11 c10 vs7]) w) H ⟨0, none, 0, [], ⟨rfl, rfl, rfl, rfl, rfl, trivial⟩, hO, hE3, h_t, h_u, hB⟩ ?_
 rintro X1 ⟨k1_5, out1_6⟩ H hX1 σ w4 ⟨n11, p9, c10, vs7, hag, hO, hE8, h_t, h_u, hB⟩
 dsimp only at H
 refine Go1.keep [(0, .slice p_t t.length c_t), (1, .slice p_u u.length c_u), (5, .slice p9 n11 c10), (12, .int .i64 (t.length : Int)), (13, .int .i64 (k1_5 : Int))] hag ?_
 refine Go1.seq ?_
 refine Go1.region ?_
 by_cases h12 : (k1_5 : Int) < (t.length : Int)
 ·replace H := ifp h12 H
  refine GoR.op ((fun w => opB (op_lss rfl rfl w) (decide_eq_true h12)) _) rfl rfl ?_
  refine GoR.nil ?_
  refine Go1.seq ?_
  refine Go1.condT rfl rfl ?_
  refine Go1.skip ?_
  refine Go1.seq ?_
  refine Go1.block ?_
  refine Go1.seq ?_
  refine Go1.region ?_
  refine GoR.op ((op_move rfl) _) rfl rfl ?_
  refine GoR.op ((op_assign rfl) _) rfl rfl ?_
  refine GoR.nil ?_
  refine Go1.seq ?_
  refine Go1.region ?_
  refine GoR.op ((op_move rfl) _) rfl rfl ?_
  refine GoR.op ((op_len Try.underlying22 rfl) _) rfl rfl ?_
  replace H := H h_u.bd
  refine GoR.op ((op_move rfl) _) rfl rfl ?_
  refine GoR.nil ?_
  refine Go1.block ?_
  refine Go1.loopW (S := Nat × List (List Int)) (fun s σ w => ∃ (n20 : Nat), ∃ (p18 : Option Addr), ∃ (c19 : Nat), ∃ (vs16 : List Value), agrees σ [(0, .slice p_t t.length c_t), (1, .slice p_u u.length c_u), (5, .slice p18 n20 c19), (6, .int .i64 (k1_5 : Int)), (12, .int .i64 (t.length : Int)), (13, .int .i64 (k1_5 : Int)), (17, .int .i64 (u.length : Int)), (18, .int .i64 ((s.1) : Int))] ∧ Owns w0.heap.size w [.row 23 1 p18 n20 c19 vs16] A ∧ Els (Rp.sl (Rp.int .i64)) (bl [.row 23 1 p18 n20 c19 vs16] ++ A) w vs16 (s.2) ∧ ISl (Rp.sl (Rp.int .i64)) (bl [.row 23 1 p18 n20 c19 vs16] ++ A) w p_t c_t t ∧ ISl (Rp.sl (Rp.int .i64)) (bl [.row 23 1 p18 n20 c19 vs16] ++ A) w p_u c_u u ∧ Fr (bl []) w0 (bl [.row 23 1 p18 n20 c19 vs16]) w) H ⟨n11, p9, c10, vs7, ⟨rfl, rfl, rfl, rfl, rfl, rfl, rfl, rfl, trivial⟩, hO, hE8, h_t, h_u, hB⟩ ?_
  rintro X2 ⟨k2_14, out2_15⟩ H hX2 σ w13 ⟨n20, p18, c19, vs16, hag, hO, hE17, h_t, h_u, hB⟩
  dsimp only at H
  refine Go1.keep [(0, .slice p_t t.length c_t), (1, .slice p_u u.length c_u), (5, .slice p18 n20 c19), (6, .int .i64 (k1_5 : Int)), (12, .int .i64 (t.length : Int)), (13, .int .i64 (k1_5 : Int)), (17, .int .i64 (u.length : Int)), (18, .int .i64 (k2_14 : Int))] hag ?_
  refine Go1.seq ?_
  refine Go1.region ?_
  by_cases h21 : (k2_14 : Int) < (u.length : Int)
  ·replace H := ifp h21 H
   refine GoR.op ((fun w => opB (op_lss rfl rfl w) (decide_eq_true h21)) _) rfl rfl ?_
   refine GoR.nil ?_
   refine Go1.seq ?_
   refine Go1.condT rfl rfl ?_
   refine Go1.skip ?_
   refine Go1.seq ?_
   refine Go1.block ?_
   refine Go1.seq ?_
   refine Go1.region ?_
   refine GoR.op ((op_move rfl) _) rfl rfl ?_
   refine GoR.op ((op_assign rfl) _) rfl rfl ?_
   refine GoR.nil ?_
   refine Go1.seq ?_
   refine Go1.region ?_
   refine GoR.op ((op_assign rfl) _) rfl rfl ?_
   refine GoR.nil ?_
   refine Go1.seq ?_
   refine Go1.seq ?_
   refine Go1.region ?_
   refine GoR.op ((op_move rfl) _) rfl rfl ?_
   refine GoR.op ((op_len Try.underlying22 rfl) _) rfl rfl ?_
   refine GoR.op ((op_move rfl) _) rfl rfl ?_
   refine GoR.nil ?_
   refine Go1.block ?_
   have hst23 := Stp.nil (e := 3) (r := 1) hO
   replace hE17 := hE17.ch hst23.ch
   replace hO := hst23.own
   replace h_t := h_t.ch hst23.ch
   replace h_u := h_u.ch hst23.ch
   replace hB := hB.trans hst23.fr
   have hE24 := Els.nil (Rp.int .i64) (bl (.row 3 1 none 0 0 [] :: [.row 23 1 p18 n20 c19 vs16]) ++ A) w13
   refine Go1.loopW (S := Nat × List Int) (fun s σ w => ∃ (n32 : Nat), ∃ (p30 : Option Addr), ∃ (c31 : Nat), ∃ (vs28 : List Value), agrees σ [(0, .slice p_t t.length c_t), (1, .slice p_u u.length c_u), (5, .slice p18 n20 c19), (6, .int .i64 (k1_5 : Int)), (7, .int .i64 (k2_14 : Int)), (8, .slice p30 n32 c31), (12, .int .i64 (t.length : Int)), (13, .int .i64 (k1_5 : Int)), (17, .int .i64 (u.length : Int)), (18, .int .i64 (k2_14 : Int)), (22, .int .i64 (t.length : Int)), (23, .int .i64 ((s.1) : Int))] ∧ Owns w0.heap.size w [.row 3 1 p30 n32 c31 vs28, .row 23 1 p18 n20 c19 vs16] A ∧ Els (Rp.int .i64) (bl [.row 3 1 p30 n32 c31 vs28, .row 23 1 p18 n20 c19 vs16] ++ A) w vs28 (s.2) ∧ Els (Rp.sl (Rp.int .i64)) (bl [.row 3 1 p30 n32 c31 vs28, .row 23 1 p18 n20 c19 vs16] ++ A) w vs16 out2_15 ∧ ISl (Rp.sl (Rp.int .i64)) (bl [.row 3 1 p30 n32 c31 vs28, .row 23 1 p18 n20 c19 vs16] ++ A) w p_t c_t t ∧ ISl (Rp.sl (Rp.int .i64)) (bl [.row 3 1 p30 n32 c31 vs28, .row 23 1 p18 n20 c19 vs16] ++ A) w p_u c_u u ∧ Fr (bl []) w0 (bl [.row 3 1 p30 n32 c31 vs28, .row 23 1 p18 n20 c19 vs16]) w) H ⟨0, none, 0, [], ⟨rfl, rfl, rfl, rfl, rfl, rfl, rfl, rfl, rfl, rfl, rfl, rfl, trivial⟩, hO, hE24, hE17, h_t, h_u, hB⟩ ?_
   rintro X3 ⟨k3_26, row3_27⟩ H hX3 σ w25 ⟨n32, p30, c31, vs28, hag, hO, hE29, hE17, h_t, h_u, hB⟩
   dsimp only at H
   refine Go1.keep [(0, .slice p_t t.length c_t), (1, .slice p_u u.length c_u), (5, .slice p18 n20 c19), (6, .int .i64 (k1_5 : Int)), (7, .int .i64 (k2_14 : Int)), (8, .slice p30 n32 c31), (12, .int .i64 (t.length : Int)), (13, .int .i64 (k1_5 : Int)), (17, .int .i64 (u.length : Int)), (18, .int .i64 (k2_14 : Int)), (22, .int .i64 (t.length : Int)), (23, .int .i64 (k3_26 : Int))] hag ?_
   refine Go1.seq ?_
   refine Go1.region ?_
   by_cases h33 : (k3_26 : Int) < (t.length : Int)
   ·replace H := ifp h33 H
    refine GoR.op ((fun w => opB (op_lss rfl rfl w) (decide_eq_true h33)) _) rfl rfl ?_
    refine GoR.nil ?_
    refine Go1.seq ?_
    refine Go1.condT rfl rfl ?_
    refine Go1.skip ?_
    refine Go1.seq ?_
    refine Go1.block ?_
    refine Go1.seq ?_
    refine Go1.region ?_
    refine GoR.op ((op_move rfl) _) rfl rfl ?_
    refine GoR.op ((op_assign rfl) _) rfl rfl ?_
    refine GoR.nil ?_
    refine Go1.seq ?_
    refine Go1.region ?_
    refine GoR.op ((op_move rfl) _) rfl rfl ?_
    refine GoR.op ((op_len Try.underlying22 rfl) _) rfl rfl ?_
    refine GoR.op ((op_move rfl) _) rfl rfl ?_
    refine GoR.nil ?_
    refine Go1.block ?_
    refine Go1.loopW (S := Nat × List Int) (fun s σ w => ∃ (n41 : Nat), ∃ (p39 : Option Addr), ∃ (c40 : Nat), ∃ (vs37 : List Value), agrees σ [(0, .slice p_t t.length c_t), (1, .slice p_u u.length c_u), (5, .slice p18 n20 c19), (6, .int .i64 (k1_5 : Int)), (7, .int .i64 (k2_14 : Int)), (8, .slice p39 n41 c40), (9, .int .i64 (k3_26 : Int)), (12, .int .i64 (t.length : Int)), (13, .int .i64 (k1_5 : Int)), (17, .int .i64 (u.length : Int)), (18, .int .i64 (k2_14 : Int)), (22, .int .i64 (t.length : Int)), (23, .int .i64 (k3_26 : Int)), (27, .int .i64 (u.length : Int)), (28, .int .i64 ((s.1) : Int))] ∧ Owns w0.heap.size w [.row 3 1 p39 n41 c40 vs37, .row 23 1 p18 n20 c19 vs16] A ∧ Els (Rp.int .i64) (bl [.row 3 1 p39 n41 c40 vs37, .row 23 1 p18 n20 c19 vs16] ++ A) w vs37 (s.2) ∧ Els (Rp.sl (Rp.int .i64)) (bl [.row 3 1 p39 n41 c40 vs37, .row 23 1 p18 n20 c19 vs16] ++ A) w vs16 out2_15 ∧ ISl (Rp.sl (Rp.int .i64)) (bl [.row 3 1 p39 n41 c40 vs37, .row 23 1 p18 n20 c19 vs16] ++ A) w p_t c_t t ∧ ISl (Rp.sl (Rp.int .i64)) (bl [.row 3 1 p39 n41 c40 vs37, .row 23 1 p18 n20 c19 vs16] ++ A) w p_u c_u u ∧ Fr (bl []) w0 (bl [.row 3 1 p39 n41 c40 vs37, .row 23 1 p18 n20 c19 vs16]) w) H ⟨n32, p30, c31, vs28, ⟨rfl, rfl, rfl, rfl, rfl, rfl, rfl, rfl, rfl, rfl, rfl, rfl, rfl, rfl, rfl, trivial⟩, hO, hE29, hE17, h_t, h_u, hB⟩ ?_
    rintro X4 ⟨k4_35, row4_36⟩ H hX4 σ w34 ⟨n41, p39, c40, vs37, hag, hO, hE38, hE17, h_t, h_u, hB⟩
    dsimp only at H
    refine Go1.keep [(0, .slice p_t t.length c_t), (1, .slice p_u u.length c_u), (5, .slice p18 n20 c19), (6, .int .i64 (k1_5 : Int)), (7, .int .i64 (k2_14 : Int)), (8, .slice p39 n41 c40), (9, .int .i64 (k3_26 : Int)), (12, .int .i64 (t.length : Int)), (13, .int .i64 (k1_5 : Int)), (17, .int .i64 (u.length : Int)), (18, .int .i64 (k2_14 : Int)), (22, .int .i64 (t.length : Int)), (23, .int .i64 (k3_26 : Int)), (27, .int .i64 (u.length : Int)), (28, .int .i64 (k4_35 : Int))] hag ?_
    refine Go1.seq ?_
    refine Go1.region ?_
    by_cases h42 : (k4_35 : Int) < (u.length : Int)
    ·replace H := ifp h42 H
     refine GoR.op ((fun w => opB (op_lss rfl rfl w) (decide_eq_true h42)) _) rfl rfl ?_
     refine GoR.nil ?_
     refine Go1.seq ?_
     refine Go1.condT rfl rfl ?_
     refine Go1.skip ?_
     refine Go1.seq ?_
     refine Go1.block ?_
     refine Go1.seq ?_
     refine Go1.region ?_
     refine GoR.op ((op_move rfl) _) rfl rfl ?_
     refine GoR.op ((op_assign rfl) _) rfl rfl ?_
     refine GoR.nil ?_
     refine Go1.drawS 6 [(0, .pure), (1, .pure), (2, .pure), (3, .pure), (4, .stable), (5, .pure), (6, .pure), (7, .stable), (8, .pure), (9, .pure), (10, .pure), (11, .pure), (12, .pure), (13, .pure), (14, .stable), (15, .pure), (16, .pure), (17, .stable), (18, .pure), (19, .loud), (20, .last), (21, .pure)] mixed (by kernel_rfl) ?_
     intro w43 hs44
     have hst45 := Stp.same hO hs44
     replace hE38 := hE38.ch hst45.ch
     replace hE17 := hE17.ch hst45.ch
     replace hO := hst45.own
     replace h_t := h_t.ch hst45.ch
     replace h_u := h_u.ch hst45.ch
     replace hB := hB.trans hst45.fr
     refine GoQ.pure rfl (op_move rfl) rfl rfl ?_
     refine GoQ.pure rfl (op_move rfl) rfl rfl ?_
     refine GoQ.pure rfl (op_move rfl) rfl rfl ?_
     obtain ⟨h46, H⟩ := H
     obtain ⟨h47, H⟩ := H
     refine GoQ.pure rfl (op_index Try.underlying22 ti23 rfl rfl h46 h47 (h_t.some_ h46 h47)) rfl rfl ?_
     have hobt := ldSl h_t h46 h47
     obtain ⟨p48, c49, hi50, hl51⟩ := hobt
     refine GoQ.stable rfl (hl51 Try.underlying23 rfl rfl) rfl rfl ?_
     refine GoQ.pure rfl (op_move rfl) rfl rfl ?_
     obtain ⟨h52, H⟩ := H
     obtain ⟨h53, H⟩ := H
     refine GoQ.pure rfl (op_index Try.underlying23 ti3 rfl rfl h52 h53 (hi50.some_ h52 h53)) rfl rfl ?_
     refine GoQ.stable rfl (ldInt hi50 h52 h53 Try.underlying3 rfl rfl) rfl rfl ?_
     refine GoQ.pure rfl (op_move rfl) rfl rfl ?_
     refine GoQ.pure rfl (op_len Try.underlying22 rfl) rfl rfl ?_
     obtain ⟨h54, H⟩ := H
     refine GoQ.pure rfl (op_mul rfl rfl (wrap_i64 h54)) rfl rfl ?_
     refine GoQ.pure rfl (op_move rfl) rfl rfl ?_
     refine GoQ.pure rfl (op_move rfl) rfl rfl ?_
     obtain ⟨h55, H⟩ := H
     obtain ⟨h56, H⟩ := H
     refine GoQ.pure rfl (op_index Try.underlying22 ti23 rfl rfl h55 h56 (h_u.some_ h55 h56)) rfl rfl ?_
     have hobt := ldSl h_u h55 h56
     obtain ⟨p57, c58, hi59, hl60⟩ := hobt
     refine GoQ.stable rfl (hl60 Try.underlying23 rfl rfl) rfl rfl ?_
     refine GoQ.pure rfl (op_move rfl) rfl rfl ?_
     obtain ⟨h61, H⟩ := H
     obtain ⟨h62, H⟩ := H
     refine GoQ.pure rfl (op_index Try.underlying23 ti3 rfl rfl h61 h62 (hi59.some_ h61 h62)) rfl rfl ?_
     refine GoQ.stable rfl (ldInt hi59 h61 h62 Try.underlying3 rfl rfl) rfl rfl ?_
     obtain ⟨h63, H⟩ := H
     refine GoQ.pure rfl (op_add rfl rfl (wrap_i64 h63)) rfl rfl ?_
     have hobt := obuild (r := Rp.int .i64) (n := 1) (parts := [(0, .int .i64 (((ix (ix t (k1_5 : Int)) (k3_26 : Int)) * (u.length : Int)) + (ix (ix u (k2_14 : Int)) (k4_35 : Int))))]) (vs := [.int .i64 (((ix (ix t (k1_5 : Int)) (k3_26 : Int)) * (u.length : Int)) + (ix (ix u (k2_14 : Int)) (k4_35 : Int)))]) (xs := [(((ix (ix t (k1_5 : Int)) (k3_26 : Int)) * (u.length : Int)) + (ix (ix u (k2_14 : Int)) (k4_35 : Int)))]) rfl Try.underlying23 ti3 hO (by decide) (by kernel_rfl) (Els.cons rfl rfl (Els.nil _ _ _) (by simp [mx])) rfl
     obtain ⟨w64, p65, hst66, hE67, hs68, hop69⟩ := hobt
     refine GoQ.loud rfl (hop69 rfl) hs68 rfl rfl ?_
     replace hE38 := hE38.ch hst66.ch
     replace hE17 := hE17.ch hst66.ch
     replace hO := hst66.own
     replace h_t := h_t.ch hst66.ch
     replace h_u := h_u.ch hst66.ch
     replace hi50 := hi50.ch hst66.ch
     replace hi59 := hi59.ch hst66.ch
     replace hB := hB.trans hst66.fr
     have hobt := freeze 0 hO rfl hE67
     obtain ⟨hO1, hc73, hi71, hn72⟩ := hobt
     replace h_t := h_t.ch hc73
     replace h_u := h_u.ch hc73
     replace hi50 := hi50.ch hc73
     replace hi59 := hi59.ch hc73
     replace hE38 := hE38.ch hc73
     replace hE17 := hE17.ch hc73
     replace hB := hB.trans (Owns.dropFr _ _ 0)
     replace hO := hO1; clear hO1
     obtain ⟨h74, H⟩ := H
     have hobt := oapp Try.underlying23 ti3 rfl 0 hO rfl hE38 hi71 hn72 h74 (by decide)
     obtain ⟨w75, p76, c77, vs78, hst79, hE80, hop81⟩ := hobt
     refine GoQ.last rfl (hop81 rfl rfl) rfl rfl ?_
     replace hE17 := hE17.ch hst79.ch
     replace hO := hst79.own
     replace h_t := h_t.ch hst79.ch
     replace h_u := h_u.ch hst79.ch
     replace hi50 := hi50.ch hst79.ch
     replace hi59 := hi59.ch hst79.ch
     replace hi71 := hi71.ch hst79.ch
     replace hB := hB.trans hst79.fr
     refine GoQ.pure rfl (op_assign rfl) rfl rfl ?_
     refine GoQ.nil ?_
     refine Go1.inBlock ?_
     refine Go1.region ?_
     refine GoR.op ((op_add rfl rfl (wrap_i64 (natbd h42 h_u.bd))) _) rfl rfl ?_
     refine GoR.op ((op_move rfl) _) rfl rfl ?_
     refine GoR.nil ?_
     exact hX4 _ H _ _ ⟨n41 + 1, p76, c77, vs78, ⟨rfl, rfl, rfl, rfl, rfl, rfl, rfl, rfl, rfl, rfl, rfl, rfl, rfl, rfl, rfl, trivial⟩, hO, hE80, hE17, h_t, h_u, hB⟩
    ·replace H := ifn h42 H
     refine GoR.op ((fun w => opB (op_lss rfl rfl w) (decide_eq_false h42)) _) rfl rfl ?_
     refine GoR.nil ?_
     refine Go1.seq ?_
     refine Go1.condF rfl rfl ?_
     refine Go1.exit rfl ?_
     refine Go1.inBlock ?_
     refine Go1.region ?_
     refine GoR.op ((op_add rfl rfl (wrap_i64 (natbd h33 h_t.bd))) _) rfl rfl ?_
     refine GoR.op ((op_move rfl) _) rfl rfl ?_
     refine GoR.nil ?_
     exact hX3 _ H _ _ ⟨n41, p39, c40, vs37, ⟨rfl, rfl, rfl, rfl, rfl, rfl, rfl, rfl, rfl, rfl, rfl, rfl, trivial⟩, hO, hE38, hE17, h_t, h_u, hB⟩
   ·replace H := ifn h33 H
    refine GoR.op ((fun w => opB (op_lss rfl rfl w) (decide_eq_false h33)) _) rfl rfl ?_
    refine GoR.nil ?_
    refine Go1.seq ?_
    refine Go1.condF rfl rfl ?_
    refine Go1.exit rfl ?_
    refine Go1.region ?_
    refine GoR.op ((op_move rfl) _) rfl rfl ?_
    refine GoR.op ((op_move rfl) _) rfl rfl ?_
    have hobt := freeze 0 hO rfl hE29
    obtain ⟨hO1, hc85, hi83, hn84⟩ := hobt
    replace h_t := h_t.ch hc85
    replace h_u := h_u.ch hc85
    replace hE17 := hE17.ch hc85
    replace hB := hB.trans (Owns.dropFr _ _ 0)
    replace hO := hO1; clear hO1
    have hobt := obuild (r := Rp.sl (Rp.int .i64)) (n := 1) (parts := [(0, .slice p30 n32 c31)]) (vs := [.slice p30 n32 c31]) (xs := [row3_27]) rfl Try.underlying22 ti23 hO (by decide) (by kernel_rfl) (Els.cons rfl ⟨p30, c31, congrArg some (congrArg (fun nn => Value.slice p30 nn c31) hn84), hi83⟩ (Els.nil _ _ _) (by simp [mx])) rfl
    obtain ⟨w86, p87, hst88, hE89, hs90, hop91⟩ := hobt
    refine GoR.op (hop91 rfl) rfl rfl ?_
    replace hE17 := hE17.ch hst88.ch
    replace hO := hst88.own
    replace h_t := h_t.ch hst88.ch
    replace h_u := h_u.ch hst88.ch
    replace hi83 := hi83.ch hst88.ch
    replace hB := hB.trans hst88.fr
    have hobt := freeze 0 hO rfl hE89
    obtain ⟨hO1, hc95, hi93, hn94⟩ := hobt
    replace h_t := h_t.ch hc95
    replace h_u := h_u.ch hc95
    replace hi83 := hi83.ch hc95
    replace hE17 := hE17.ch hc95
    replace hB := hB.trans (Owns.dropFr _ _ 0)
    replace hO := hO1; clear hO1
    obtain ⟨h96, H⟩ := H
    have hobt := oapp Try.underlying22 ti23 rfl 0 hO rfl hE17 hi93 hn94 h96 (by decide)
    obtain ⟨w97, p98, c99, vs100, hst101, hE102, hop103⟩ := hobt
    refine GoR.op (hop103 rfl rfl) rfl rfl ?_
    replace hO := hst101.own
    replace h_t := h_t.ch hst101.ch
    replace h_u := h_u.ch hst101.ch
    replace hi83 := hi83.ch hst101.ch
    replace hi93 := hi93.ch hst101.ch
    replace hB := hB.trans hst101.fr
    refine GoR.op ((op_assign rfl) _) rfl rfl ?_
    refine GoR.nil ?_
    refine Go1.inBlock ?_
    refine Go1.region ?_
    refine GoR.op ((op_add rfl rfl (wrap_i64 (natbd h21 h_u.bd))) _) rfl rfl ?_
    refine GoR.op ((op_move rfl) _) rfl rfl ?_
    refine GoR.nil ?_
    exact hX2 _ H _ _ ⟨n20 + 1, p98, c99, vs100, ⟨rfl, rfl, rfl, rfl, rfl, rfl, rfl, rfl, trivial⟩, hO, hE102, h_t, h_u, hB⟩
  ·replace H := ifn h21 H
   refine GoR.op ((fun w => opB (op_lss rfl rfl w) (decide_eq_false h21)) _) rfl rfl ?_
   refine GoR.nil ?_
   refine Go1.seq ?_
   refine Go1.condF rfl rfl ?_
   refine Go1.exit rfl ?_
   refine Go1.inBlock ?_
   refine Go1.region ?_
   refine GoR.op ((op_add rfl rfl (wrap_i64 (natbd h12 h_t.bd))) _) rfl rfl ?_
   refine GoR.op ((op_move rfl) _) rfl rfl ?_
   refine GoR.nil ?_
   exact hX1 _ H _ _ ⟨n20, p18, c19, vs16, ⟨rfl, rfl, rfl, rfl, rfl, trivial⟩, hO, hE17, h_t, h_u, hB⟩
 ·replace H := ifn h12 H
  refine GoR.op ((fun w => opB (op_lss rfl rfl w) (decide_eq_false h12)) _) rfl rfl ?_
  refine GoR.nil ?_
  refine Go1.seq ?_
  refine Go1.condF rfl rfl ?_
  refine Go1.exit rfl ?_
  refine Go1.seq ?_
  refine Go1.region ?_
  refine GoR.op ((op_move rfl) _) rfl rfl ?_
  refine GoR.op ((op_assign rfl) _) rfl rfl ?_
  refine GoR.nil ?_
  have hobt := freeze 0 hO rfl hE8
  obtain ⟨hO1, hc107, hi105, hn106⟩ := hobt
  replace h_t := h_t.ch hc107
  replace h_u := h_u.ch hc107
  replace hB := hB.trans (Owns.dropFr _ _ 0)
  replace hO := hO1; clear hO1
  refine Go1.ret1 Try.func50 rfl ?_
  exact ⟨out1_6, p9, c10, ((congrArg (fun nn => Value.slice p9 nn c10) hn106)), hB.same, (hi105.ch (Ch.weak _ _ _)), H⟩
end Sg
