/- The walks: each call keeps to its plain transformer. Printed by walkgen.py. -/
import Derived.Test.YtolobiljalelgaaWMultValues
namespace Sg
open Go Go.RowKit Go.Proofs
set_option linter.unusedVariables false
set_option maxRecDepth 100000
set_option maxHeartbeats 4000000
theorem body45 : Body Try.prog 45 := ⟨Try.f45, Try.func45, rfl, by kernel_rfl⟩
theorem walk_mult_Opposite {A : List Nat} {w0 : World} {p_t : Option Addr} {c_t : Nat} {t : List (List Int)} (hA : ∀ b ∈ A, b < w0.heap.size) (h_t : ISl (Rp.sl (Rp.int .i64)) A w0 p_t c_t t) {K : List (List Int) → Prop} (H : mult_Opposite t K) :
    CallsV Try.prog 45 #[.slice p_t t.length c_t] w0 (fun v w' => ∃ (r0 : List (List Int)), ∃ (p_r0 : Option Addr), ∃ (c_r0 : Nat), v = .slice p_r0 r0.length c_r0 ∧ Same w0 w' ∧ ISl (Rp.sl (Rp.int .i64)) A w' p_r0 c_r0 r0 ∧ K r0) := by
 refine CallsV.of (l := [.slice p_t t.length c_t]) Try.func45 rfl Try.ntmps45 rfl ?_
 have hO := Owns.start hA
 have hB := Fr.refl (bl []) w0
 unfold mult_Opposite at H
 replace h_t := h_t.ch (Ch.start A w0)
 refine Go1.seq ?_
 refine Go1.region ?_
 refine GoR.op ((op_assign rfl) _) rfl rfl ?_
 refine GoR.nil ?_
 refine Go1.seq ?_
 refine Go1.seq ?_
 refine Go1.region ?_
 refine GoR.op ((op_move rfl) _) rfl rfl ?_
 refine GoR.call (op_call body71 rfl (walk_mult_valid hO.lt h_t H)) rfl rfl ?_
 rintro v5 w2 ⟨r1, rfl, hs3, H⟩
 have hst6 := Stp.same hO hs3
 replace hO := hst6.own
 replace h_t := h_t.ch hst6.ch
 replace hB := hB.trans hst6.fr
 cases r1
 ·replace H := ifn Bool.false_ne_true H
  refine GoR.op ((op_not rfl) _) rfl rfl ?_
  refine GoR.nil ?_
  refine Go1.condT rfl rfl ?_
  refine Go1.seq ?_
  refine Go1.region ?_
  refine GoR.op ((op_assign rfl) _) rfl rfl ?_
  refine GoR.nil ?_
  refine Go1.ret1 Try.func45 rfl ?_
  exact ⟨([] : List (List Int)), none, 0, rfl, hB.same, (ISl.null _ _ _), H⟩
 ·replace H := ifp rfl H
  refine GoR.op ((op_not rfl) _) rfl rfl ?_
  refine GoR.nil ?_
  refine Go1.condF rfl rfl ?_
  refine Go1.skip ?_
  refine Go1.seq ?_
  refine Go1.region ?_
  refine GoR.op ((op_move rfl) _) rfl rfl ?_
  refine GoR.op ((op_len Try.underlying22 rfl) _) rfl rfl ?_
  replace H := H h_t.bd
  obtain ⟨h14, H⟩ := H
  obtain ⟨h15, H⟩ := H
  have hobt := t2make (m := (t.length : Int)) (e' := 3) (Fl.int .i64) Try.underlying22 ti23 hO h14 h15 (by decide)
  obtain ⟨w7, p8, hst10, hs12, hop13⟩ := hobt
  refine GoR.op (hop13 rfl rfl) rfl rfl ?_
  replace hO := hst10.own
  replace h_t := h_t.ch hst10.ch
  replace hB := hB.trans hst10.fr
  refine GoR.op ((op_assign rfl) _) rfl rfl ?_
  refine GoR.nil ?_
  refine Go1.seq ?_
  refine Go1.seq ?_
  refine Go1.region ?_
  refine GoR.op ((op_move rfl) _) rfl rfl ?_
  refine GoR.op ((op_lenN Try.underlying22 rfl (t2neq 0 hO rfl)) _) rfl rfl ?_
  refine GoR.op ((op_move rfl) _) rfl rfl ?_
  refine GoR.nil ?_
  refine Go1.block ?_
  refine Go1.loopW (S := Nat × List (List Int)) (fun s σ w => ∃ (n22 : Nat), ∃ (p20 : Option Addr), ∃ (c21 : Nat), ∃ (hs23 : Hd), agrees σ [(0, .slice p_t t.length c_t), (3, .slice p20 n22 c21), (13, .int .i64 ((List.replicate t.length ([] : List Int)).length : Int)), (14, .int .i64 ((s.1) : Int))] ∧ Owns w0.heap.size w [t2 (Fl.int .i64) 23 3 p20 n22 c21 hs23 (s.2)] A ∧ ISl (Rp.sl (Rp.int .i64)) (bl [t2 (Fl.int .i64) 23 3 p20 n22 c21 hs23 (s.2)] ++ A) w p_t c_t t ∧ Fr (bl []) w0 (bl [t2 (Fl.int .i64) 23 3 p20 n22 c21 hs23 (s.2)]) w) H ⟨t.length, p8, t.length, (fun _ => (none, 0)), ⟨rfl, rfl, rfl, rfl, trivial⟩, hO, h_t, hB⟩ ?_
  rintro X1 ⟨k1_18, o1_19⟩ H hX1 σ w17 ⟨n22, p20, c21, hs23, hag, hO, h_t, hB⟩
  dsimp only at H
  refine Go1.keep [(0, .slice p_t t.length c_t), (3, .slice p20 n22 c21), (13, .int .i64 ((List.replicate t.length ([] : List Int)).length : Int)), (14, .int .i64 (k1_18 : Int))] hag ?_
  refine Go1.seq ?_
  refine Go1.region ?_
  by_cases h24 : (k1_18 : Int) < ((List.replicate t.length ([] : List Int)).length : Int)
  ·replace H := ifp h24 H
   refine GoR.op ((fun w => opB (op_lss rfl rfl w) (decide_eq_true h24)) _) rfl rfl ?_
   refine GoR.nil ?_
   refine Go1.seq ?_
   refine Go1.condT rfl rfl ?_
   refine Go1.skip ?_
   refine Go1.seq ?_
   refine Go1.block ?_
   refine Go1.seq ?_
   refine Go1.region ?_
   refine GoR.op ((op_move rfl) _) rfl rfl ?_
   refine GoR.op ((op_assign rfl) _) rfl rfl ?_
   refine GoR.nil ?_
   refine Go1.seq ?_
   refine Go1.region ?_
   refine GoR.op ((op_move rfl) _) rfl rfl ?_
   refine GoR.op ((op_move rfl) _) rfl rfl ?_
   refine GoR.op ((op_move rfl) _) rfl rfl ?_
   refine GoR.op ((op_len Try.underlying22 rfl) _) rfl rfl ?_
   obtain ⟨h32, H⟩ := H
   obtain ⟨h33, H⟩ := H
   have hobt := omake (n := (t.length : Int)) (r := Rp.int .i64) (d := (0 : Int)) Try.underlying23 ti3 (fun _ _ => rfl) rfl hO h32 h33 (by decide)
   obtain ⟨w25, p26, vs27, hst28, hE29, hs30, hop31⟩ := hobt
   refine GoR.op (hop31 rfl rfl) rfl rfl ?_
   replace hO := hst28.own
   replace h_t := h_t.ch hst28.ch
   replace hB := hB.trans hst28.fr
   obtain ⟨h35, H⟩ := H
   obtain ⟨h36, H⟩ := H
   refine GoR.op ((op_index Try.underlying22 ti23 rfl rfl h35 (ltn (t2neq 1 hO rfl) h36) (t2some 1 hO rfl h35 h36)) _) rfl rfl ?_
   have hst37 := Stp.front 1 hO rfl
   replace hE29 := hE29.ch hst37.ch
   replace hO := hst37.own
   replace h_t := h_t.ch hst37.ch
   replace hB := hB.trans hst37.fr
   have hst38 := Stp.front 1 hO rfl
   replace hE29 := hE29.ch hst38.ch
   replace hO := hst38.own
   replace h_t := h_t.ch hst38.ch
   replace hB := hB.trans hst38.fr
   have hobt := t2put (hf := (Fl.int .i64)) hO hE29 h35 h36
   obtain ⟨w39, hst40, hop41⟩ := hobt
   refine GoR.op (hop41 Try.underlying23 rfl ti23 rfl rfl) rfl rfl ?_
   replace hO := hst40.own
   replace h_t := h_t.ch hst40.ch
   replace hB := hB.trans hst40.fr
   refine GoR.nil ?_
   refine Go1.seq ?_
   refine Go1.region ?_
   refine GoR.op ((op_move rfl) _) rfl rfl ?_
   refine GoR.op ((op_len Try.underlying22 rfl) _) rfl rfl ?_
   refine GoR.op ((op_move rfl) _) rfl rfl ?_
   refine GoR.nil ?_
   refine Go1.block ?_
   refine Go1.loopW (S := Nat × List (List Int)) (fun s σ w => agrees σ [(0, .slice p_t t.length c_t), (3, .slice p20 n22 c21), (4, .int .i64 (k1_18 : Int)), (13, .int .i64 ((List.replicate t.length ([] : List Int)).length : Int)), (14, .int .i64 (k1_18 : Int)), (24, .int .i64 (t.length : Int)), (25, .int .i64 ((s.1) : Int))] ∧ Owns w0.heap.size w [t2 (Fl.int .i64) 23 3 p20 n22 c21 (hup hs23 (k1_18 : Int).toNat (p26, t.length)) (s.2)] A ∧ ISl (Rp.sl (Rp.int .i64)) (bl [t2 (Fl.int .i64) 23 3 p20 n22 c21 (hup hs23 (k1_18 : Int).toNat (p26, t.length)) (s.2)] ++ A) w p_t c_t t ∧ Fr (bl []) w0 (bl [t2 (Fl.int .i64) 23 3 p20 n22 c21 (hup hs23 (k1_18 : Int).toNat (p26, t.length)) (s.2)]) w) H ⟨⟨rfl, rfl, rfl, rfl, rfl, rfl, rfl, trivial⟩, hO, h_t, hB⟩ ?_
   rintro X2 ⟨k2_43, o2_44⟩ H hX2 σ w42 ⟨hag, hO, h_t, hB⟩
   dsimp only at H
   refine Go1.keep [(0, .slice p_t t.length c_t), (3, .slice p20 n22 c21), (4, .int .i64 (k1_18 : Int)), (13, .int .i64 ((List.replicate t.length ([] : List Int)).length : Int)), (14, .int .i64 (k1_18 : Int)), (24, .int .i64 (t.length : Int)), (25, .int .i64 (k2_43 : Int))] hag ?_
   refine Go1.seq ?_
   refine Go1.region ?_
   by_cases h45 : (k2_43 : Int) < (t.length : Int)
   ·replace H := ifp h45 H
    refine GoR.op ((fun w => opB (op_lss rfl rfl w) (decide_eq_true h45)) _) rfl rfl ?_
    refine GoR.nil ?_
    refine Go1.seq ?_
    refine Go1.condT rfl rfl ?_
    refine Go1.skip ?_
    refine Go1.seq ?_
    refine Go1.block ?_
    refine Go1.seq ?_
    refine Go1.region ?_
    refine GoR.op ((op_move rfl) _) rfl rfl ?_
    refine GoR.op ((op_assign rfl) _) rfl rfl ?_
    refine GoR.nil ?_
    refine Go1.drawS 1 [(0, .pure), (1, .pure), (2, .pure), (3, .stable), (4, .pure), (5, .pure), (6, .pure), (7, .pure), (8, .stable), (9, .pure), (10, .pure), (11, .stable), (12, .pure), (13, .last)] mixed (by kernel_rfl) ?_
    intro w46 hs47
    have hst48 := Stp.same hO hs47
    replace hO := hst48.own
    replace h_t := h_t.ch hst48.ch
    replace hB := hB.trans hst48.fr
    refine GoQ.pure rfl (op_move rfl) rfl rfl ?_
    refine GoQ.pure rfl (op_move rfl) rfl rfl ?_
    obtain ⟨h49, H⟩ := H
    obtain ⟨h50, H⟩ := H
    refine GoQ.pure rfl (op_index Try.underlying22 ti23 rfl rfl h49 (ltn (t2neq 0 hO rfl) h50) (t2some 0 hO rfl h49 h50)) rfl rfl ?_
    refine GoQ.stable rfl (t2head 0 hO rfl h49 h50 Try.underlying23 rfl rfl) rfl rfl ?_
    refine GoQ.pure rfl (op_move rfl) rfl rfl ?_
    refine GoQ.pure rfl (op_move rfl) rfl rfl ?_
    refine GoQ.pure rfl (op_move rfl) rfl rfl ?_
    obtain ⟨h51, H⟩ := H
    obtain ⟨h52, H⟩ := H
    refine GoQ.pure rfl (op_index Try.underlying22 ti23 rfl rfl h51 h52 (h_t.some_ h51 h52)) rfl rfl ?_
    have hobt := ldSl h_t h51 h52
    obtain ⟨p53, c54, hi55, hl56⟩ := hobt
    refine GoQ.stable rfl (hl56 Try.underlying23 rfl rfl) rfl rfl ?_
    refine GoQ.pure rfl (op_move rfl) rfl rfl ?_
    obtain ⟨h57, H⟩ := H
    obtain ⟨h58, H⟩ := H
    refine GoQ.pure rfl (op_index Try.underlying23 ti3 rfl rfl h57 h58 (hi55.some_ h57 h58)) rfl rfl ?_
    refine GoQ.stable rfl (ldInt hi55 h57 h58 Try.underlying3 rfl rfl) rfl rfl ?_
    obtain ⟨h59, H⟩ := H
    obtain ⟨h60, H⟩ := H
    refine GoQ.pure rfl (op_index Try.underlying23 ti3 rfl rfl h59 h60 (t2isome 0 hO rfl h49 h50 h59 h60)) rfl rfl ?_
    have hobt := t2st (r := Rp.int .i64) (hf := (Fl.int .i64)) rfl 0 hO rfl h49 h50 h59 h60 (v := .int .i64 (ix (ix t (k2_43 : Int)) (k1_18 : Int))) (u := (ix (ix t (k2_43 : Int)) (k1_18 : Int))) rfl rfl
    obtain ⟨w61, hst62, hop63⟩ := hobt
    refine GoQ.last rfl (hop63 Try.underlying3 rfl ti3 rfl rfl) rfl rfl ?_
    replace hO := hst62.own
    replace h_t := h_t.ch hst62.ch
    replace hi55 := hi55.ch hst62.ch
    replace hB := hB.trans hst62.fr
    refine GoQ.nil ?_
    refine Go1.inBlock ?_
    refine Go1.region ?_
    refine GoR.op ((op_add rfl rfl (wrap_i64 (natbd h45 h_t.bd))) _) rfl rfl ?_
    refine GoR.op ((op_move rfl) _) rfl rfl ?_
    refine GoR.nil ?_
    exact hX2 _ H _ _ ⟨⟨rfl, rfl, rfl, rfl, rfl, rfl, rfl, trivial⟩, hO, h_t, hB⟩
   ·replace H := ifn h45 H
    refine GoR.op ((fun w => opB (op_lss rfl rfl w) (decide_eq_false h45)) _) rfl rfl ?_
    refine GoR.nil ?_
    refine Go1.seq ?_
    refine Go1.condF rfl rfl ?_
    refine Go1.exit rfl ?_
    refine Go1.inBlock ?_
    refine Go1.region ?_
    obtain ⟨h64, H⟩ := H
    refine GoR.op ((op_add rfl rfl (wrap_i64 h64)) _) rfl rfl ?_
    refine GoR.op ((op_move rfl) _) rfl rfl ?_
    refine GoR.nil ?_
    exact hX1 _ H _ _ ⟨n22, p20, c21, hup hs23 (k1_18 : Int).toNat (p26, t.length), ⟨rfl, rfl, rfl, rfl, trivial⟩, hO, h_t, hB⟩
  ·replace H := ifn h24 H
   refine GoR.op ((fun w => opB (op_lss rfl rfl w) (decide_eq_false h24)) _) rfl rfl ?_
   refine GoR.nil ?_
   refine Go1.seq ?_
   refine Go1.condF rfl rfl ?_
   refine Go1.exit rfl ?_
   refine Go1.seq ?_
   refine Go1.region ?_
   refine GoR.op ((op_move rfl) _) rfl rfl ?_
   refine GoR.op ((op_assign rfl) _) rfl rfl ?_
   refine GoR.nil ?_
   have hobt := t2freezeA 0 hO rfl
   obtain ⟨hO1, hc67, hi65, hn66⟩ := hobt
   replace h_t := h_t.ch hc67
   replace hB := hB.trans (Owns.dropFr _ _ 0)
   replace hO := hO1; clear hO1
   refine Go1.ret1 Try.func45 rfl ?_
   exact ⟨o1_19, p20, c21, ((congrArg (fun nn => Value.slice p20 nn c21) hn66)), hB.same, (hi65.ch (Ch.weak _ _ _)), H⟩
theorem body80 : Body Try.prog 80 := ⟨Try.f80, Try.func80, rfl, by kernel_rfl⟩
theorem walk_slices_Clone_int {A : List Nat} {w0 : World} {p_s : Option Addr} {c_s : Nat} {s : List Int} (hA : ∀ b ∈ A, b < w0.heap.size) (h_s : ISl (Rp.int .i64) A w0 p_s c_s s) {K : List Int → Prop} (H : slices_Clone_int s K) :
    CallsV Try.prog 80 #[.slice p_s s.length c_s] w0 (fun v w' => ∃ (r0 : List Int), ∃ (n_r0 : Nat), ∃ (p_r0 : Option Addr), ∃ (c_r0 : Nat), ∃ (vs_r0 : List Value), v = .slice p_r0 n_r0 c_r0 ∧ Same w0 w' ∧ Owns w0.heap.size w' [.row 3 1 p_r0 n_r0 c_r0 vs_r0] A ∧ Els (Rp.int .i64) (bl [.row 3 1 p_r0 n_r0 c_r0 vs_r0] ++ A) w' vs_r0 r0 ∧ K r0) := by
 refine CallsV.of (l := [.slice p_s s.length c_s]) Try.func80 rfl Try.ntmps80 rfl ?_
 have hO := Owns.start hA
 have hB := Fr.refl (bl []) w0
 unfold slices_Clone_int at H
 replace h_s := h_s.ch (Ch.start A w0)
 refine Go1.seq ?_
 refine Go1.region ?_
 refine GoR.op ((op_assign rfl) _) rfl rfl ?_
 refine GoR.nil ?_
 refine Go1.seq ?_
 refine Go1.seq ?_
 refine Go1.region ?_
 refine GoR.op ((op_move rfl) _) rfl rfl ?_
 replace H := H p_s.isNone (fun h => h_s.nilD h)
 by_cases hz2 : p_s.isNone = true
 ·replace H := ifp hz2 H
  refine GoR.op ((fun w => opB (op_nilSlice Try.underlying23 rfl rfl w) (hz2)) _) rfl rfl ?_
  refine GoR.nil ?_
  refine Go1.condT rfl rfl ?_
  refine Go1.seq ?_
  refine Go1.region ?_
  refine GoR.op ((op_assign rfl) _) rfl rfl ?_
  refine GoR.nil ?_
  have hst4 := Stp.nil (e := 3) (r := 1) hO
  replace hO := hst4.own
  replace h_s := h_s.ch hst4.ch
  replace hB := hB.trans hst4.fr
  have hE5 := Els.nil (Rp.int .i64) (bl (.row 3 1 none 0 0 [] :: []) ++ A) w0
  refine Go1.ret1 Try.func80 rfl ?_
  exact ⟨(([] : List Int)), 0, none, 0, ([]), rfl, hB.same, hO, hE5, H⟩
 ·replace H := ifn hz2 H
  refine GoR.op ((fun w => opB (op_nilSlice Try.underlying23 rfl rfl w) (Bool.eq_false_iff.2 hz2)) _) rfl rfl ?_
  refine GoR.nil ?_
  refine Go1.condF rfl rfl ?_
  refine Go1.skip ?_
  refine Go1.seq ?_
  refine Go1.region ?_
  have hobt := obuild (r := Rp.int .i64) (n := 0) (parts := []) (vs := []) (xs := ([] : List Int)) rfl Try.underlying23 ti3 hO (by decide) (by kernel_rfl) (Els.nil _ _ _) rfl
  obtain ⟨w6, p7, hst8, hE9, hs10, hop11⟩ := hobt
  refine GoR.op (hop11 rfl) rfl rfl ?_
  replace hO := hst8.own
  replace h_s := h_s.ch hst8.ch
  replace hB := hB.trans hst8.fr
  refine GoR.op ((op_move rfl) _) rfl rfl ?_
  obtain ⟨h13, H⟩ := H
  have hobt := oapp Try.underlying23 ti3 rfl 0 hO rfl hE9 h_s rfl h13 (by decide)
  obtain ⟨w14, p15, c16, vs17, hst18, hE19, hop20⟩ := hobt
  refine GoR.op (hop20 rfl rfl) rfl rfl ?_
  replace hO := hst18.own
  replace h_s := h_s.ch hst18.ch
  replace hB := hB.trans hst18.fr
  refine GoR.op ((op_assign rfl) _) rfl rfl ?_
  refine GoR.nil ?_
  refine Go1.ret1 Try.func80 rfl ?_
  exact ⟨((([] : List Int)) ++ s), (0 + s.length), p15, c16, vs17, rfl, hB.same, hO, hE19, H⟩
theorem body46 : Body Try.prog 46 := ⟨Try.f46, Try.func46, rfl, by kernel_rfl⟩
theorem walk_mult_Adjoin {A : List Nat} {w0 : World} {p_t : Option Addr} {c_t : Nat} {t : List (List Int)} (hA : ∀ b ∈ A, b < w0.heap.size) (h_t : ISl (Rp.sl (Rp.int .i64)) A w0 p_t c_t t) {K : List (List Int) → Prop} (H : mult_Adjoin t K) :
    CallsV Try.prog 46 #[.slice p_t t.length c_t] w0 (fun v w' => ∃ (r0 : List (List Int)), ∃ (p_r0 : Option Addr), ∃ (c_r0 : Nat), v = .slice p_r0 r0.length c_r0 ∧ Same w0 w' ∧ ISl (Rp.sl (Rp.int .i64)) A w' p_r0 c_r0 r0 ∧ K r0) := by
 refine CallsV.of (l := [.slice p_t t.length c_t]) Try.func46 rfl Try.ntmps46 rfl ?_
 have hO := Owns.start hA
 have hB := Fr.refl (bl []) w0
 unfold mult_Adjoin at H
 replace h_t := h_t.ch (Ch.start A w0)
 refine Go1.seq ?_
 refine Go1.region ?_
 refine GoR.op ((op_assign rfl) _) rfl rfl ?_
 refine GoR.nil ?_
 refine Go1.seq ?_
 refine Go1.seq ?_
 refine Go1.region ?_
 refine GoR.op ((op_move rfl) _) rfl rfl ?_
 refine GoR.op ((op_len Try.underlying22 rfl) _) rfl rfl ?_
 replace H := H h_t.bd
 by_cases h1 : (400 : Int) ≤ (t.length : Int)
 ·replace H := ifp h1 H
  refine GoR.op ((fun w => opB (op_geq rfl rfl w) (decide_eq_true h1)) _) rfl rfl ?_
  refine GoR.op ((op_move rfl) _) rfl rfl ?_
  refine GoR.pass rfl rfl ?_
  refine GoR.pass rfl rfl ?_
  refine GoR.pass rfl rfl ?_
  refine GoR.op ((op_pickT rfl rfl rfl) _) rfl rfl ?_
  refine GoR.nil ?_
  refine Go1.condT rfl rfl ?_
  refine Go1.seq ?_
  refine Go1.region ?_
  refine GoR.op ((op_assign rfl) _) rfl rfl ?_
  refine GoR.nil ?_
  refine Go1.ret1 Try.func46 rfl ?_
  exact ⟨([] : List (List Int)), none, 0, rfl, hB.same, (ISl.null _ _ _), H⟩
 ·replace H := ifn h1 H
  refine GoR.op ((fun w => opB (op_geq rfl rfl w) (decide_eq_false h1)) _) rfl rfl ?_
  refine GoR.op ((op_move rfl) _) rfl rfl ?_
  refine GoR.op ((op_move rfl) _) rfl rfl ?_
  refine GoR.call (op_call body71 rfl (walk_mult_valid hO.lt h_t H)) rfl rfl ?_
  rintro v6 w3 ⟨r2, rfl, hs4, H⟩
  have hst7 := Stp.same hO hs4
  replace hO := hst7.own
  replace h_t := h_t.ch hst7.ch
  replace hB := hB.trans hst7.fr
  cases r2
  ·replace H := ifn Bool.false_ne_true H
   refine GoR.op ((op_not rfl) _) rfl rfl ?_
   refine GoR.op ((op_pickF rfl rfl rfl) _) rfl rfl ?_
   refine GoR.nil ?_
   refine Go1.condT rfl rfl ?_
   refine Go1.seq ?_
   refine Go1.region ?_
   refine GoR.op ((op_assign rfl) _) rfl rfl ?_
   refine GoR.nil ?_
   refine Go1.ret1 Try.func46 rfl ?_
   exact ⟨([] : List (List Int)), none, 0, rfl, hB.same, (ISl.null _ _ _), H⟩
  ·replace H := ifp rfl H
   refine GoR.op ((op_not rfl) _) rfl rfl ?_
   refine GoR.op ((op_pickF rfl rfl rfl) _) rfl rfl ?_
   refine GoR.nil ?_
   refine Go1.condF rfl rfl ?_
   refine Go1.skip ?_
   refine Go1.seq ?_
   refine Go1.region ?_
   refine GoR.op ((op_move rfl) _) rfl rfl ?_
   refine GoR.op ((op_len Try.underlying22 rfl) _) rfl rfl ?_
   obtain ⟨h8, H⟩ := H
   refine GoR.op ((op_add rfl rfl (wrap_i64 h8)) _) rfl rfl ?_
   obtain ⟨h16, H⟩ := H
   obtain ⟨h17, H⟩ := H
   have hobt := omake0 (n := (t.length + 1 : Int)) (r := Rp.sl (Rp.int .i64)) Try.underlying22 ti23 hO h16 h17 (by decide)
   obtain ⟨w9, p10, hst12, hE13, hs14, hop15⟩ := hobt
   refine GoR.op (hop15 rfl rfl) rfl rfl ?_
   replace hO := hst12.own
   replace h_t := h_t.ch hst12.ch
   replace hB := hB.trans hst12.fr
   refine GoR.op ((op_assign rfl) _) rfl rfl ?_
   refine GoR.nil ?_
   refine Go1.seq ?_
   refine Go1.seq ?_
   refine Go1.region ?_
   refine GoR.op ((op_move rfl) _) rfl rfl ?_
   refine GoR.op ((op_len Try.underlying22 rfl) _) rfl rfl ?_
   refine GoR.op ((op_move rfl) _) rfl rfl ?_
   refine GoR.nil ?_
   refine Go1.block ?_
   refine Go1.loopW (S := Nat × List (List Int)) (fun s σ w => ∃ (n26 : Nat), ∃ (p24 : Option Addr), ∃ (c25 : Nat), ∃ (vs22 : List Value), agrees σ [(0, .slice p_t t.length c_t), (3, .slice p24 n26 c25), (18, .slice p_t t.length c_t), (19, .int .i64 (t.length : Int)), (20, .int .i64 ((s.1) : Int))] ∧ Owns w0.heap.size w [.row 23 1 p24 n26 c25 vs22] A ∧ Els (Rp.sl (Rp.int .i64)) (bl [.row 23 1 p24 n26 c25 vs22] ++ A) w vs22 (s.2) ∧ ISl (Rp.sl (Rp.int .i64)) (bl [.row 23 1 p24 n26 c25 vs22] ++ A) w p_t c_t t ∧ Fr (bl []) w0 (bl [.row 23 1 p24 n26 c25 vs22]) w) H ⟨0, p10, t.length + 1, [], ⟨rfl, rfl, rfl, rfl, rfl, trivial⟩, hO, hE13, h_t, hB⟩ ?_
   rintro X1 ⟨k1_20, a1_21⟩ H hX1 σ w19 ⟨n26, p24, c25, vs22, hag, hO, hE23, h_t, hB⟩
   dsimp only at H
   refine Go1.keep [(0, .slice p_t t.length c_t), (3, .slice p24 n26 c25), (18, .slice p_t t.length c_t), (19, .int .i64 (t.length : Int)), (20, .int .i64 (k1_20 : Int))] hag ?_
   refine Go1.seq ?_
   refine Go1.region ?_
   by_cases h27 : (k1_20 : Int) < (t.length : Int)
   ·replace H := ifp h27 H
    refine GoR.op ((fun w => opB (op_lss rfl rfl w) (decide_eq_true h27)) _) rfl rfl ?_
    refine GoR.nil ?_
    refine Go1.seq ?_
    refine Go1.condT rfl rfl ?_
    refine Go1.skip ?_
    refine Go1.seq ?_
    refine Go1.block ?_
    refine Go1.seq ?_
    refine Go1.region ?_
    refine GoR.op ((op_move rfl) _) rfl rfl ?_
    obtain ⟨h28, H⟩ := H
    obtain ⟨h29, H⟩ := H
    refine GoR.op ((op_index Try.underlying22 ti23 rfl rfl h28 h29 (h_t.some_ h28 h29)) _) rfl rfl ?_
    have hobt := ldSl h_t h28 h29
    obtain ⟨p30, c31, hi32, hl33⟩ := hobt
    refine GoR.op ((hl33 Try.underlying23 rfl rfl) _ (Same.refl _)) rfl rfl ?_
    refine GoR.op ((op_assign rfl) _) rfl rfl ?_
    refine GoR.op ((op_assign rfl) _) rfl rfl ?_
    refine GoR.nil ?_
    refine Go1.region ?_
    refine GoR.op ((op_move rfl) _) rfl rfl ?_
    refine GoR.op ((op_move rfl) _) rfl rfl ?_
    refine GoR.call (op_call body80 rfl (walk_slices_Clone_int hO.lt hi32 H)) rfl rfl ?_
    rintro v39 w36 ⟨r34, n_r34, p_r34, c_r34, vs_r34, rfl, hs37, hN38, hE35, H⟩
    have hst40 := Stp.more hO hs37 hN38
    replace hE23 := hE23.ch hst40.ch
    replace hO := hst40.own
    replace h_t := h_t.ch hst40.ch
    replace hi32 := hi32.ch hst40.ch
    replace hB := hB.trans hst40.fr
    replace hE35 := hE35.ch (Ch.assoc _ _ _ _)
    refine GoR.op ((op_move rfl) _) rfl rfl ?_
    have hobt := obuild (r := Rp.int .i64) (n := 1) (parts := [(0, .int .i64 (k1_20 : Int))]) (vs := [.int .i64 (k1_20 : Int)]) (xs := [(k1_20 : Int)]) rfl Try.underlying23 ti3 hO (by decide) (by kernel_rfl) (Els.cons rfl rfl (Els.nil _ _ _) (by simp [mx])) rfl
    obtain ⟨w42, p43, hst44, hE45, hs46, hop47⟩ := hobt
    refine GoR.op (hop47 rfl) rfl rfl ?_
    replace hE35 := hE35.ch hst44.ch
    replace hE23 := hE23.ch hst44.ch
    replace hO := hst44.own
    replace h_t := h_t.ch hst44.ch
    replace hi32 := hi32.ch hst44.ch
    replace hB := hB.trans hst44.fr
    have hobt := freeze 0 hO rfl hE45
    obtain ⟨hO1, hc51, hi49, hn50⟩ := hobt
    replace h_t := h_t.ch hc51
    replace hi32 := hi32.ch hc51
    replace hE35 := hE35.ch hc51
    replace hE23 := hE23.ch hc51
    replace hB := hB.trans (Owns.dropFr _ _ 0)
    replace hO := hO1; clear hO1
    obtain ⟨h52, H⟩ := H
    have hobt := oapp Try.underlying23 ti3 rfl 0 hO rfl hE35 hi49 hn50 h52 (by decide)
    obtain ⟨w53, p54, c55, vs56, hst57, hE58, hop59⟩ := hobt
    refine GoR.op (hop59 rfl rfl) rfl rfl ?_
    replace hE23 := hE23.ch hst57.ch
    replace hO := hst57.own
    replace h_t := h_t.ch hst57.ch
    replace hi32 := hi32.ch hst57.ch
    replace hi49 := hi49.ch hst57.ch
    replace hB := hB.trans hst57.fr
    have hobt := freeze 0 hO rfl hE58
    obtain ⟨hO1, hc63, hi61, hn62⟩ := hobt
    replace h_t := h_t.ch hc63
    replace hi32 := hi32.ch hc63
    replace hi49 := hi49.ch hc63
    replace hE23 := hE23.ch hc63
    replace hB := hB.trans (Owns.dropFr _ _ 0)
    replace hO := hO1; clear hO1
    have hobt := obuild (r := Rp.sl (Rp.int .i64)) (n := 1) (parts := [(0, .slice p54 (n_r34 + 1) c55)]) (vs := [.slice p54 (n_r34 + 1) c55]) (xs := [r34 ++ ([(k1_20 : Int)])]) rfl Try.underlying22 ti23 hO (by decide) (by kernel_rfl) (Els.cons rfl ⟨p54, c55, congrArg some (congrArg (fun nn => Value.slice p54 nn c55) hn62), hi61⟩ (Els.nil _ _ _) (by simp [mx])) rfl
    obtain ⟨w64, p65, hst66, hE67, hs68, hop69⟩ := hobt
    refine GoR.op (hop69 rfl) rfl rfl ?_
    replace hE23 := hE23.ch hst66.ch
    replace hO := hst66.own
    replace h_t := h_t.ch hst66.ch
    replace hi32 := hi32.ch hst66.ch
    replace hi49 := hi49.ch hst66.ch
    replace hi61 := hi61.ch hst66.ch
    replace hB := hB.trans hst66.fr
    have hobt := freeze 0 hO rfl hE67
    obtain ⟨hO1, hc73, hi71, hn72⟩ := hobt
    replace h_t := h_t.ch hc73
    replace hi32 := hi32.ch hc73
    replace hi49 := hi49.ch hc73
    replace hi61 := hi61.ch hc73
    replace hE23 := hE23.ch hc73
    replace hB := hB.trans (Owns.dropFr _ _ 0)
    replace hO := hO1; clear hO1
    obtain ⟨h74, H⟩ := H
    have hobt := oapp Try.underlying22 ti23 rfl 0 hO rfl hE23 hi71 hn72 h74 (by decide)
    obtain ⟨w75, p76, c77, vs78, hst79, hE80, hop81⟩ := hobt
    refine GoR.op (hop81 rfl rfl) rfl rfl ?_
    replace hO := hst79.own
    replace h_t := h_t.ch hst79.ch
    replace hi32 := hi32.ch hst79.ch
    replace hi49 := hi49.ch hst79.ch
    replace hi61 := hi61.ch hst79.ch
    replace hi71 := hi71.ch hst79.ch
    replace hB := hB.trans hst79.fr
    refine GoR.op ((op_assign rfl) _) rfl rfl ?_
    refine GoR.nil ?_
    refine Go1.inBlock ?_
    refine Go1.region ?_
    refine GoR.op ((op_add rfl rfl (wrap_i64 (natbd h27 h_t.bd))) _) rfl rfl ?_
    refine GoR.op ((op_move rfl) _) rfl rfl ?_
    refine GoR.nil ?_
    exact hX1 _ H _ _ ⟨n26 + 1, p76, c77, vs78, ⟨rfl, rfl, rfl, rfl, rfl, trivial⟩, hO, hE80, h_t, hB⟩
   ·replace H := ifn h27 H
    refine GoR.op ((fun w => opB (op_lss rfl rfl w) (decide_eq_false h27)) _) rfl rfl ?_
    refine GoR.nil ?_
    refine Go1.seq ?_
    refine Go1.condF rfl rfl ?_
    refine Go1.exit rfl ?_
    refine Go1.seq ?_
    refine Go1.region ?_
    refine GoR.op ((op_move rfl) _) rfl rfl ?_
    refine GoR.op ((op_move rfl) _) rfl rfl ?_
    refine GoR.call (op_call body73 rfl (walk_mult_elements hO.lt h_t H)) rfl rfl ?_
    rintro v88 w85 ⟨r83, n_r83, p_r83, c_r83, vs_r83, rfl, hs86, hN87, hE84, H⟩
    have hst89 := Stp.more hO hs86 hN87
    replace hE23 := hE23.ch hst89.ch
    replace hO := hst89.own
    replace h_t := h_t.ch hst89.ch
    replace hB := hB.trans hst89.fr
    replace hE84 := hE84.ch (Ch.assoc _ _ _ _)
    refine GoR.op ((op_move rfl) _) rfl rfl ?_
    refine GoR.op ((op_len Try.underlying22 rfl) _) rfl rfl ?_
    have hobt := obuild (r := Rp.int .i64) (n := 1) (parts := [(0, .int .i64 (t.length : Int))]) (vs := [.int .i64 (t.length : Int)]) (xs := [(t.length : Int)]) rfl Try.underlying23 ti3 hO (by decide) (by kernel_rfl) (Els.cons rfl rfl (Els.nil _ _ _) (by simp [mx])) rfl
    obtain ⟨w91, p92, hst93, hE94, hs95, hop96⟩ := hobt
    refine GoR.op (hop96 rfl) rfl rfl ?_
    replace hE84 := hE84.ch hst93.ch
    replace hE23 := hE23.ch hst93.ch
    replace hO := hst93.own
    replace h_t := h_t.ch hst93.ch
    replace hB := hB.trans hst93.fr
    have hobt := freeze 0 hO rfl hE94
    obtain ⟨hO1, hc100, hi98, hn99⟩ := hobt
    replace h_t := h_t.ch hc100
    replace hE84 := hE84.ch hc100
    replace hE23 := hE23.ch hc100
    replace hB := hB.trans (Owns.dropFr _ _ 0)
    replace hO := hO1; clear hO1
    obtain ⟨h101, H⟩ := H
    have hobt := oapp Try.underlying23 ti3 rfl 0 hO rfl hE84 hi98 hn99 h101 (by decide)
    obtain ⟨w102, p103, c104, vs105, hst106, hE107, hop108⟩ := hobt
    refine GoR.op (hop108 rfl rfl) rfl rfl ?_
    replace hE23 := hE23.ch hst106.ch
    replace hO := hst106.own
    replace h_t := h_t.ch hst106.ch
    replace hi98 := hi98.ch hst106.ch
    replace hB := hB.trans hst106.fr
    have hobt := freeze 0 hO rfl hE107
    obtain ⟨hO1, hc112, hi110, hn111⟩ := hobt
    replace h_t := h_t.ch hc112
    replace hi98 := hi98.ch hc112
    replace hE23 := hE23.ch hc112
    replace hB := hB.trans (Owns.dropFr _ _ 0)
    replace hO := hO1; clear hO1
    have hobt := obuild (r := Rp.sl (Rp.int .i64)) (n := 1) (parts := [(0, .slice p103 (n_r83 + 1) c104)]) (vs := [.slice p103 (n_r83 + 1) c104]) (xs := [r83 ++ ([(t.length : Int)])]) rfl Try.underlying22 ti23 hO (by decide) (by kernel_rfl) (Els.cons rfl ⟨p103, c104, congrArg some (congrArg (fun nn => Value.slice p103 nn c104) hn111), hi110⟩ (Els.nil _ _ _) (by simp [mx])) rfl
    obtain ⟨w113, p114, hst115, hE116, hs117, hop118⟩ := hobt
    refine GoR.op (hop118 rfl) rfl rfl ?_
    replace hE23 := hE23.ch hst115.ch
    replace hO := hst115.own
    replace h_t := h_t.ch hst115.ch
    replace hi98 := hi98.ch hst115.ch
    replace hi110 := hi110.ch hst115.ch
    replace hB := hB.trans hst115.fr
    have hobt := freeze 0 hO rfl hE116
    obtain ⟨hO1, hc122, hi120, hn121⟩ := hobt
    replace h_t := h_t.ch hc122
    replace hi98 := hi98.ch hc122
    replace hi110 := hi110.ch hc122
    replace hE23 := hE23.ch hc122
    replace hB := hB.trans (Owns.dropFr _ _ 0)
    replace hO := hO1; clear hO1
    obtain ⟨h123, H⟩ := H
    have hobt := oapp Try.underlying22 ti23 rfl 0 hO rfl hE23 hi120 hn121 h123 (by decide)
    obtain ⟨w124, p125, c126, vs127, hst128, hE129, hop130⟩ := hobt
    refine GoR.op (hop130 rfl rfl) rfl rfl ?_
    replace hO := hst128.own
    replace h_t := h_t.ch hst128.ch
    replace hi98 := hi98.ch hst128.ch
    replace hi110 := hi110.ch hst128.ch
    replace hi120 := hi120.ch hst128.ch
    replace hB := hB.trans hst128.fr
    refine GoR.op ((op_assign rfl) _) rfl rfl ?_
    refine GoR.nil ?_
    have hobt := freeze 0 hO rfl hE129
    obtain ⟨hO1, hc134, hi132, hn133⟩ := hobt
    replace h_t := h_t.ch hc134
    replace hi98 := hi98.ch hc134
    replace hi110 := hi110.ch hc134
    replace hi120 := hi120.ch hc134
    replace hB := hB.trans (Owns.dropFr _ _ 0)
    replace hO := hO1; clear hO1
    refine Go1.ret1 Try.func46 rfl ?_
    exact ⟨a1_21 ++ ([r83 ++ ([(t.length : Int)])]), p125, c126, ((congrArg (fun nn => Value.slice p125 nn c126) hn133)), hB.same, (hi132.ch (Ch.weak _ _ _)), H⟩
theorem body81 : Body Try.prog 81 := ⟨Try.f81, Try.func81, rfl, by kernel_rfl⟩
theorem walk_ref03_Copy {A : List Nat} {w0 : World} {p_a : Option Addr} {c_a : Nat} {a : List (List Int)} (hA : ∀ b ∈ A, b < w0.heap.size) (h_a : ISl (Rp.sl (Rp.int .i64)) A w0 p_a c_a a) {K : List (List Int) → Prop} (H : ref03_Copy a K) :
    CallsV Try.prog 81 #[.slice p_a a.length c_a] w0 (fun v w' => ∃ (r0 : List (List Int)), ∃ (n_r0 : Nat), ∃ (p_r0 : Option Addr), ∃ (c_r0 : Nat), ∃ (hs_r0 : Hd), v = .slice p_r0 n_r0 c_r0 ∧ Same w0 w' ∧ Owns w0.heap.size w' [t2 (Fl.int .i64) 23 3 p_r0 n_r0 c_r0 hs_r0 r0] A ∧ K r0) := by
 refine CallsV.of (l := [.slice p_a a.length c_a]) Try.func81 rfl Try.ntmps81 rfl ?_
 have hO := Owns.start hA
 have hB := Fr.refl (bl []) w0
 unfold ref03_Copy at H
 replace h_a := h_a.ch (Ch.start A w0)
 refine Go1.seq ?_
 refine Go1.region ?_
 refine GoR.op ((op_assign rfl) _) rfl rfl ?_
 refine GoR.nil ?_
 refine Go1.seq ?_
 refine Go1.region ?_
 refine GoR.op ((op_assign rfl) _) rfl rfl ?_
 refine GoR.nil ?_
 refine Go1.seq ?_
 refine Go1.seq ?_
 refine Go1.region ?_
 refine GoR.op ((op_move rfl) _) rfl rfl ?_
 refine GoR.op ((op_len Try.underlying22 rfl) _) rfl rfl ?_
 replace H := H h_a.bd
 refine GoR.op ((op_move rfl) _) rfl rfl ?_
 refine GoR.nil ?_
 refine Go1.block ?_
 have hst2 := t2nil (e := 23) (e' := 3) (Fl.int .i64) hO
 replace hO := hst2.own
 replace h_a := h_a.ch hst2.ch
 replace hB := hB.trans hst2.fr
 refine Go1.loopW (S := Nat × List (List Int)) (fun s σ w => ∃ (n8 : Nat), ∃ (p6 : Option Addr), ∃ (c7 : Nat), ∃ (hs9 : Hd), agrees σ [(3, .slice p6 n8 c7), (6, .slice p_a a.length c_a), (7, .int .i64 (a.length : Int)), (8, .int .i64 ((s.1) : Int))] ∧ Owns w0.heap.size w [t2 (Fl.int .i64) 23 3 p6 n8 c7 hs9 (s.2)] A ∧ ISl (Rp.sl (Rp.int .i64)) (bl [t2 (Fl.int .i64) 23 3 p6 n8 c7 hs9 (s.2)] ++ A) w p_a c_a a ∧ Fr (bl []) w0 (bl [t2 (Fl.int .i64) 23 3 p6 n8 c7 hs9 (s.2)]) w) H ⟨0, none, 0, (fun _ => (none, 0)), ⟨rfl, rfl, rfl, rfl, trivial⟩, hO, h_a, hB⟩ ?_
 rintro X1 ⟨k1_4, out1_5⟩ H hX1 σ w3 ⟨n8, p6, c7, hs9, hag, hO, h_a, hB⟩
 dsimp only at H
 refine Go1.keep [(3, .slice p6 n8 c7), (6, .slice p_a a.length c_a), (7, .int .i64 (a.length : Int)), (8, .int .i64 (k1_4 : Int))] hag ?_
 refine Go1.seq ?_
 refine Go1.region ?_
 by_cases h10 : (k1_4 : Int) < (a.length : Int)
 ·replace H := ifp h10 H
  refine GoR.op ((fun w => opB (op_lss rfl rfl w) (decide_eq_true h10)) _) rfl rfl ?_
  refine GoR.nil ?_
  refine Go1.seq ?_
  refine Go1.condT rfl rfl ?_
  refine Go1.skip ?_
  refine Go1.seq ?_
  refine Go1.block ?_
  refine Go1.seq ?_
  refine Go1.region ?_
  obtain ⟨h11, H⟩ := H
  obtain ⟨h12, H⟩ := H
  refine GoR.op ((op_index Try.underlying22 ti23 rfl rfl h11 h12 (h_a.some_ h11 h12)) _) rfl rfl ?_
  have hobt := ldSl h_a h11 h12
  obtain ⟨p13, c14, hi15, hl16⟩ := hobt
  refine GoR.op ((hl16 Try.underlying23 rfl rfl) _ (Same.refl _)) rfl rfl ?_
  refine GoR.op ((op_assign rfl) _) rfl rfl ?_
  refine GoR.nil ?_
  refine Go1.region ?_
  refine GoR.op ((op_move rfl) _) rfl rfl ?_
  have hobt := obuild (r := Rp.int .i64) (n := 0) (parts := []) (vs := []) (xs := ([] : List Int)) rfl Try.underlying23 ti3 hO (by decide) (by kernel_rfl) (Els.nil _ _ _) rfl
  obtain ⟨w17, p18, hst19, hE20, hs21, hop22⟩ := hobt
  refine GoR.op (hop22 rfl) rfl rfl ?_
  replace hO := hst19.own
  replace h_a := h_a.ch hst19.ch
  replace hi15 := hi15.ch hst19.ch
  replace hB := hB.trans hst19.fr
  refine GoR.op ((op_move rfl) _) rfl rfl ?_
  obtain ⟨h24, H⟩ := H
  have hobt := oapp Try.underlying23 ti3 rfl 0 hO rfl hE20 hi15 rfl h24 (by decide)
  obtain ⟨w25, p26, c27, vs28, hst29, hE30, hop31⟩ := hobt
  refine GoR.op (hop31 rfl rfl) rfl rfl ?_
  replace hO := hst29.own
  replace h_a := h_a.ch hst29.ch
  replace hi15 := hi15.ch hst29.ch
  replace hB := hB.trans hst29.fr
  have hobt := t2build1 (Fl.int .i64) Try.underlying22 ti23 hO hE30
  obtain ⟨w33, p34, hst35, hop36⟩ := hobt
  refine GoR.op (hop36 rfl) rfl rfl ?_
  replace hO := hst35.own
  replace h_a := h_a.ch hst35.ch
  replace hi15 := hi15.ch hst35.ch
  replace hB := hB.trans hst35.fr
  have hst38 := Stp.front 1 hO rfl
  replace hO := hst38.own
  replace h_a := h_a.ch hst38.ch
  replace hi15 := hi15.ch hst38.ch
  replace hB := hB.trans hst38.fr
  have hst39 := Stp.front 1 hO rfl
  replace hO := hst39.own
  replace h_a := h_a.ch hst39.ch
  replace hi15 := hi15.ch hst39.ch
  replace hB := hB.trans hst39.fr
  obtain ⟨h40, H⟩ := H
  have hobt := t2cat Try.underlying22 ti23 hO h40 (by decide)
  obtain ⟨w41, p42, c43, hst44, hop45⟩ := hobt
  refine GoR.op (hop45 rfl rfl) rfl rfl ?_
  replace hO := hst44.own
  replace h_a := h_a.ch hst44.ch
  replace hi15 := hi15.ch hst44.ch
  replace hB := hB.trans hst44.fr
  refine GoR.op ((op_assign rfl) _) rfl rfl ?_
  refine GoR.nil ?_
  refine Go1.inBlock ?_
  refine Go1.region ?_
  refine GoR.op ((op_add rfl rfl (wrap_i64 (natbd h10 h_a.bd))) _) rfl rfl ?_
  refine GoR.op ((op_move rfl) _) rfl rfl ?_
  refine GoR.nil ?_
  exact hX1 _ H _ _ ⟨n8 + 1, p42, c43, hcat hs9 out1_5.length ((fun _ => (p26, c27))), ⟨rfl, rfl, rfl, rfl, trivial⟩, hO, h_a, hB⟩
 ·replace H := ifn h10 H
  refine GoR.op ((fun w => opB (op_lss rfl rfl w) (decide_eq_false h10)) _) rfl rfl ?_
  refine GoR.nil ?_
  refine Go1.seq ?_
  refine Go1.condF rfl rfl ?_
  refine Go1.exit rfl ?_
  refine Go1.seq ?_
  refine Go1.region ?_
  refine GoR.op ((op_move rfl) _) rfl rfl ?_
  refine GoR.op ((op_assign rfl) _) rfl rfl ?_
  refine GoR.nil ?_
  refine Go1.ret1 Try.func81 rfl ?_
  exact ⟨out1_5, n8, p6, c7, hs9, rfl, hB.same, hO, H⟩
theorem body48 : Body Try.prog 48 := ⟨Try.f48, Try.func48, rfl, by kernel_rfl⟩
theorem walk_ref14_Opposite {A : List Nat} {w0 : World} {p_t : Option Addr} {c_t : Nat} {t : List (List Int)} (hA : ∀ b ∈ A, b < w0.heap.size) (h_t : ISl (Rp.sl (Rp.int .i64)) A w0 p_t c_t t) {K : List (List Int) → Prop} (H : ref14_Opposite t K) :
    CallsV Try.prog 48 #[.slice p_t t.length c_t] w0 (fun v w' => ∃ (r0 : List (List Int)), ∃ (p_r0 : Option Addr), ∃ (c_r0 : Nat), v = .slice p_r0 r0.length c_r0 ∧ Same w0 w' ∧ ISl (Rp.sl (Rp.int .i64)) A w' p_r0 c_r0 r0 ∧ K r0) := by
 refine CallsV.of (l := [.slice p_t t.length c_t]) Try.func48 rfl Try.ntmps48 rfl ?_
 have hO := Owns.start hA
 have hB := Fr.refl (bl []) w0
 unfold ref14_Opposite at H
 replace h_t := h_t.ch (Ch.start A w0)
 refine Go1.seq ?_
 refine Go1.region ?_
 refine GoR.op ((op_assign rfl) _) rfl rfl ?_
 refine GoR.nil ?_
 refine Go1.seq ?_
 refine Go1.region ?_
 refine GoR.op ((op_move rfl) _) rfl rfl ?_
 refine GoR.call (op_call body81 rfl (walk_ref03_Copy hO.lt h_t H)) rfl rfl ?_
 rintro v6 w3 ⟨r1, n_r1, p_r1, c_r1, hs_r1, rfl, hs4, hN5, H⟩
 have hst7 := Stp.more hO hs4 hN5
 replace hO := hst7.own
 replace h_t := h_t.ch hst7.ch
 replace hB := hB.trans hst7.fr
 refine GoR.op ((op_assign rfl) _) rfl rfl ?_
 refine GoR.nil ?_
 refine Go1.seq ?_
 refine Go1.seq ?_
 refine Go1.region ?_
 refine GoR.op ((op_move rfl) _) rfl rfl ?_
 refine GoR.op ((op_len Try.underlying22 rfl) _) rfl rfl ?_
 replace H := H h_t.bd
 refine GoR.op ((op_move rfl) _) rfl rfl ?_
 refine GoR.nil ?_
 refine Go1.block ?_
 refine Go1.loopW (S := Nat × List (List Int)) (fun s σ w => agrees σ [(0, .slice p_t t.length c_t), (3, .slice p_r1 n_r1 c_r1), (9, .int .i64 (t.length : Int)), (10, .int .i64 ((s.1) : Int))] ∧ Owns w0.heap.size w [t2 (Fl.int .i64) 23 3 p_r1 n_r1 c_r1 hs_r1 (s.2)] A ∧ ISl (Rp.sl (Rp.int .i64)) (bl [t2 (Fl.int .i64) 23 3 p_r1 n_r1 c_r1 hs_r1 (s.2)] ++ A) w p_t c_t t ∧ Fr (bl []) w0 (bl [t2 (Fl.int .i64) 23 3 p_r1 n_r1 c_r1 hs_r1 (s.2)]) w) H ⟨⟨rfl, rfl, rfl, rfl, trivial⟩, hO, h_t, hB⟩ ?_
 rintro X1 ⟨k1_10, out1_11⟩ H hX1 σ w9 ⟨hag, hO, h_t, hB⟩
 dsimp only at H
 refine Go1.keep [(0, .slice p_t t.length c_t), (3, .slice p_r1 n_r1 c_r1), (9, .int .i64 (t.length : Int)), (10, .int .i64 (k1_10 : Int))] hag ?_
 refine Go1.seq ?_
 refine Go1.region ?_
 by_cases h12 : (k1_10 : Int) < (t.length : Int)
 ·replace H := ifp h12 H
  refine GoR.op ((fun w => opB (op_lss rfl rfl w) (decide_eq_true h12)) _) rfl rfl ?_
  refine GoR.nil ?_
  refine Go1.seq ?_
  refine Go1.condT rfl rfl ?_
  refine Go1.skip ?_
  refine Go1.seq ?_
  refine Go1.block ?_
  refine Go1.seq ?_
  refine Go1.region ?_
  refine GoR.op ((op_move rfl) _) rfl rfl ?_
  refine GoR.op ((op_assign rfl) _) rfl rfl ?_
  refine GoR.nil ?_
  refine Go1.seq ?_
  refine Go1.region ?_
  refine GoR.op ((op_move rfl) _) rfl rfl ?_
  refine GoR.op ((op_len Try.underlying22 rfl) _) rfl rfl ?_
  refine GoR.op ((op_move rfl) _) rfl rfl ?_
  refine GoR.nil ?_
  refine Go1.block ?_
  refine Go1.loopW (S := Nat × List (List Int)) (fun s σ w => agrees σ [(0, .slice p_t t.length c_t), (3, .slice p_r1 n_r1 c_r1), (4, .int .i64 (k1_10 : Int)), (9, .int .i64 (t.length : Int)), (10, .int .i64 (k1_10 : Int)), (14, .int .i64 (t.length : Int)), (15, .int .i64 ((s.1) : Int))] ∧ Owns w0.heap.size w [t2 (Fl.int .i64) 23 3 p_r1 n_r1 c_r1 hs_r1 (s.2)] A ∧ ISl (Rp.sl (Rp.int .i64)) (bl [t2 (Fl.int .i64) 23 3 p_r1 n_r1 c_r1 hs_r1 (s.2)] ++ A) w p_t c_t t ∧ Fr (bl []) w0 (bl [t2 (Fl.int .i64) 23 3 p_r1 n_r1 c_r1 hs_r1 (s.2)]) w) H ⟨⟨rfl, rfl, rfl, rfl, rfl, rfl, rfl, trivial⟩, hO, h_t, hB⟩ ?_
  rintro X2 ⟨k2_14, out2_15⟩ H hX2 σ w13 ⟨hag, hO, h_t, hB⟩
  dsimp only at H
  refine Go1.keep [(0, .slice p_t t.length c_t), (3, .slice p_r1 n_r1 c_r1), (4, .int .i64 (k1_10 : Int)), (9, .int .i64 (t.length : Int)), (10, .int .i64 (k1_10 : Int)), (14, .int .i64 (t.length : Int)), (15, .int .i64 (k2_14 : Int))] hag ?_
  refine Go1.seq ?_
  refine Go1.region ?_
  by_cases h16 : (k2_14 : Int) < (t.length : Int)
  ·replace H := ifp h16 H
   refine GoR.op ((fun w => opB (op_lss rfl rfl w) (decide_eq_true h16)) _) rfl rfl ?_
   refine GoR.nil ?_
   refine Go1.seq ?_
   refine Go1.condT rfl rfl ?_
   refine Go1.skip ?_
   refine Go1.seq ?_
   refine Go1.block ?_
   refine Go1.seq ?_
   refine Go1.region ?_
   refine GoR.op ((op_move rfl) _) rfl rfl ?_
   refine GoR.op ((op_assign rfl) _) rfl rfl ?_
   refine GoR.nil ?_
   refine Go1.drawS 1 [(0, .pure), (1, .pure), (2, .pure), (3, .stable), (4, .pure), (5, .pure), (6, .pure), (7, .pure), (8, .stable), (9, .pure), (10, .pure), (11, .stable), (12, .pure), (13, .last)] mixed (by kernel_rfl) ?_
   intro w17 hs18
   have hst19 := Stp.same hO hs18
   replace hO := hst19.own
   replace h_t := h_t.ch hst19.ch
   replace hB := hB.trans hst19.fr
   refine GoQ.pure rfl (op_move rfl) rfl rfl ?_
   refine GoQ.pure rfl (op_move rfl) rfl rfl ?_
   obtain ⟨h20, H⟩ := H
   obtain ⟨h21, H⟩ := H
   refine GoQ.pure rfl (op_index Try.underlying22 ti23 rfl rfl h20 (ltn (t2neq 0 hO rfl) h21) (t2some 0 hO rfl h20 h21)) rfl rfl ?_
   refine GoQ.stable rfl (t2head 0 hO rfl h20 h21 Try.underlying23 rfl rfl) rfl rfl ?_
   refine GoQ.pure rfl (op_move rfl) rfl rfl ?_
   refine GoQ.pure rfl (op_move rfl) rfl rfl ?_
   refine GoQ.pure rfl (op_move rfl) rfl rfl ?_
   obtain ⟨h22, H⟩ := H
   obtain ⟨h23, H⟩ := H
   refine GoQ.pure rfl (op_index Try.underlying22 ti23 rfl rfl h22 h23 (h_t.some_ h22 h23)) rfl rfl ?_
   have hobt := ldSl h_t h22 h23
   obtain ⟨p24, c25, hi26, hl27⟩ := hobt
   refine GoQ.stable rfl (hl27 Try.underlying23 rfl rfl) rfl rfl ?_
   refine GoQ.pure rfl (op_move rfl) rfl rfl ?_
   obtain ⟨h28, H⟩ := H
   obtain ⟨h29, H⟩ := H
   refine GoQ.pure rfl (op_index Try.underlying23 ti3 rfl rfl h28 h29 (hi26.some_ h28 h29)) rfl rfl ?_
   refine GoQ.stable rfl (ldInt hi26 h28 h29 Try.underlying3 rfl rfl) rfl rfl ?_
   obtain ⟨h30, H⟩ := H
   obtain ⟨h31, H⟩ := H
   refine GoQ.pure rfl (op_index Try.underlying23 ti3 rfl rfl h30 h31 (t2isome 0 hO rfl h20 h21 h30 h31)) rfl rfl ?_
   have hobt := t2st (r := Rp.int .i64) (hf := (Fl.int .i64)) rfl 0 hO rfl h20 h21 h30 h31 (v := .int .i64 (ix (ix t (k2_14 : Int)) (k1_10 : Int))) (u := (ix (ix t (k2_14 : Int)) (k1_10 : Int))) rfl rfl
   obtain ⟨w32, hst33, hop34⟩ := hobt
   refine GoQ.last rfl (hop34 Try.underlying3 rfl ti3 rfl rfl) rfl rfl ?_
   replace hO := hst33.own
   replace h_t := h_t.ch hst33.ch
   replace hi26 := hi26.ch hst33.ch
   replace hB := hB.trans hst33.fr
   refine GoQ.nil ?_
   refine Go1.inBlock ?_
   refine Go1.region ?_
   refine GoR.op ((op_add rfl rfl (wrap_i64 (natbd h16 h_t.bd))) _) rfl rfl ?_
   refine GoR.op ((op_move rfl) _) rfl rfl ?_
   refine GoR.nil ?_
   exact hX2 _ H _ _ ⟨⟨rfl, rfl, rfl, rfl, rfl, rfl, rfl, trivial⟩, hO, h_t, hB⟩
  ·replace H := ifn h16 H
   refine GoR.op ((fun w => opB (op_lss rfl rfl w) (decide_eq_false h16)) _) rfl rfl ?_
   refine GoR.nil ?_
   refine Go1.seq ?_
   refine Go1.condF rfl rfl ?_
   refine Go1.exit rfl ?_
   refine Go1.inBlock ?_
   refine Go1.region ?_
   refine GoR.op ((op_add rfl rfl (wrap_i64 (natbd h12 h_t.bd))) _) rfl rfl ?_
   refine GoR.op ((op_move rfl) _) rfl rfl ?_
   refine GoR.nil ?_
   exact hX1 _ H _ _ ⟨⟨rfl, rfl, rfl, rfl, trivial⟩, hO, h_t, hB⟩
 ·replace H := ifn h12 H
  refine GoR.op ((fun w => opB (op_lss rfl rfl w) (decide_eq_false h12)) _) rfl rfl ?_
  refine GoR.nil ?_
  refine Go1.seq ?_
  refine Go1.condF rfl rfl ?_
  refine Go1.exit rfl ?_
  refine Go1.seq ?_
  refine Go1.region ?_
  refine GoR.op ((op_move rfl) _) rfl rfl ?_
  refine GoR.op ((op_assign rfl) _) rfl rfl ?_
  refine GoR.nil ?_
  have hobt := t2freezeA 0 hO rfl
  obtain ⟨hO1, hc37, hi35, hn36⟩ := hobt
  replace h_t := h_t.ch hc37
  replace hB := hB.trans (Owns.dropFr _ _ 0)
  replace hO := hO1; clear hO1
  refine Go1.ret1 Try.func48 rfl ?_
  exact ⟨out1_11, p_r1, c_r1, ((congrArg (fun nn => Value.slice p_r1 nn c_r1) hn36)), hB.same, (hi35.ch (Ch.weak _ _ _)), H⟩
theorem body47 : Body Try.prog 47 := ⟨Try.f47, Try.func47, rfl, by kernel_rfl⟩
theorem walk_ref03_SameRows {A : List Nat} {w0 : World} {p_a : Option Addr} {c_a : Nat} {p_b : Option Addr} {c_b : Nat} {a : List (List Int)} {b : List (List Int)} (hA : ∀ b ∈ A, b < w0.heap.size) (h_a : ISl (Rp.sl (Rp.int .i64)) A w0 p_a c_a a) (h_b : ISl (Rp.sl (Rp.int .i64)) A w0 p_b c_b b) {K : Bool → Prop} (H : ref03_SameRows a b K) :
    CallsV Try.prog 47 #[.slice p_a a.length c_a, .slice p_b b.length c_b] w0 (fun v w' => ∃ (r0 : Bool), v = .bool r0 ∧ Same w0 w' ∧ K r0) := by
 refine CallsV.of (l := [.slice p_a a.length c_a, .slice p_b b.length c_b]) Try.func47 rfl Try.ntmps47 rfl ?_
 have hO := Owns.start hA
 have hB := Fr.refl (bl []) w0
 unfold ref03_SameRows at H
 replace h_a := h_a.ch (Ch.start A w0)
 replace h_b := h_b.ch (Ch.start A w0)
 refine Go1.seq ?_
 refine Go1.region ?_
 refine GoR.op ((op_assign rfl) _) rfl rfl ?_
 refine GoR.nil ?_
 refine Go1.seq ?_
 refine Go1.seq ?_
 refine Go1.region ?_
 refine GoR.op ((op_move rfl) _) rfl rfl ?_
 refine GoR.op ((op_len Try.underlying22 rfl) _) rfl rfl ?_
 replace H := H h_a.bd
 refine GoR.op ((op_move rfl) _) rfl rfl ?_
 refine GoR.op ((op_len Try.underlying22 rfl) _) rfl rfl ?_
 replace H := H h_b.bd
 by_cases h1 : (a.length : Int) = (b.length : Int)
 ·replace H := ifp h1 H
  refine GoR.op ((fun w => opB (op_neq rfl rfl w) (ndT h1)) _) rfl rfl ?_
  refine GoR.nil ?_
  refine Go1.condF rfl rfl ?_
  refine Go1.skip ?_
  refine Go1.seq ?_
  refine Go1.seq ?_
  refine Go1.region ?_
  refine GoR.op ((op_move rfl) _) rfl rfl ?_
  refine GoR.op ((op_len Try.underlying22 rfl) _) rfl rfl ?_
  refine GoR.op ((op_move rfl) _) rfl rfl ?_
  refine GoR.nil ?_
  refine Go1.block ?_
  refine Go1.loopW (S := Nat) (fun s σ w => agrees σ [(0, .slice p_a a.length c_a), (1, .slice p_b b.length c_b), (12, .int .i64 (a.length : Int)), (13, .int .i64 (s : Int))] ∧ Owns w0.heap.size w [] A ∧ ISl (Rp.sl (Rp.int .i64)) (bl [] ++ A) w p_a c_a a ∧ ISl (Rp.sl (Rp.int .i64)) (bl [] ++ A) w p_b c_b b ∧ Fr (bl []) w0 (bl []) w) H ⟨⟨rfl, rfl, rfl, rfl, trivial⟩, hO, h_a, h_b, hB⟩ ?_
  rintro X1 k1_3 H hX1 σ w2 ⟨hag, hO, h_a, h_b, hB⟩
  refine Go1.keep [(0, .slice p_a a.length c_a), (1, .slice p_b b.length c_b), (12, .int .i64 (a.length : Int)), (13, .int .i64 (k1_3 : Int))] hag ?_
  refine Go1.seq ?_
  refine Go1.region ?_
  by_cases h4 : (k1_3 : Int) < (a.length : Int)
  ·replace H := ifp h4 H
   refine GoR.op ((fun w => opB (op_lss rfl rfl w) (decide_eq_true h4)) _) rfl rfl ?_
   refine GoR.nil ?_
   refine Go1.seq ?_
   refine Go1.condT rfl rfl ?_
   refine Go1.skip ?_
   refine Go1.seq ?_
   refine Go1.block ?_
   refine Go1.seq ?_
   refine Go1.region ?_
   refine GoR.op ((op_move rfl) _) rfl rfl ?_
   refine GoR.op ((op_assign rfl) _) rfl rfl ?_
   refine GoR.nil ?_
   refine Go1.seq ?_
   refine Go1.drawS 0 [(0, .pure), (1, .pure), (2, .pure), (3, .stable), (4, .pure), (5, .pure), (6, .pure), (7, .stable), (8, .loud), (9, .pure)] mixed (by kernel_rfl) ?_
   intro w5 hs6
   have hst7 := Stp.same hO hs6
   replace hO := hst7.own
   replace h_a := h_a.ch hst7.ch
   replace h_b := h_b.ch hst7.ch
   replace hB := hB.trans hst7.fr
   refine GoQ.pure rfl (op_move rfl) rfl rfl ?_
   refine GoQ.pure rfl (op_move rfl) rfl rfl ?_
   obtain ⟨h8, H⟩ := H
   obtain ⟨h9, H⟩ := H
   refine GoQ.pure rfl (op_index Try.underlying22 ti23 rfl rfl h8 h9 (h_a.some_ h8 h9)) rfl rfl ?_
   have hobt := ldSl h_a h8 h9
   obtain ⟨p10, c11, hi12, hl13⟩ := hobt
   refine GoQ.stable rfl (hl13 Try.underlying23 rfl rfl) rfl rfl ?_
   refine GoQ.pure rfl (op_move rfl) rfl rfl ?_
   refine GoQ.pure rfl (op_move rfl) rfl rfl ?_
   obtain ⟨h14, H⟩ := H
   obtain ⟨h15, H⟩ := H
   refine GoQ.pure rfl (op_index Try.underlying22 ti23 rfl rfl h14 h15 (h_b.some_ h14 h15)) rfl rfl ?_
   have hobt := ldSl h_b h14 h15
   obtain ⟨p16, c17, hi18, hl19⟩ := hobt
   refine GoQ.stable rfl (hl19 Try.underlying23 rfl rfl) rfl rfl ?_
   refine GoQ.call rfl (op_call body40 rfl (walk_ref03_Same hO.lt hi12 hi18 H)) (fun v w hr => by obtain ⟨_, _, hs, _⟩ := hr; assumption) rfl rfl ?_
   rintro v24 w21 ⟨r20, rfl, hs22, H⟩
   have hst25 := Stp.same hO hs22
   replace hO := hst25.own
   replace h_a := h_a.ch hst25.ch
   replace h_b := h_b.ch hst25.ch
   replace hi12 := hi12.ch hst25.ch
   replace hi18 := hi18.ch hst25.ch
   replace hB := hB.trans hst25.fr
   cases r20
   ·replace H := ifn Bool.false_ne_true H
    refine GoQ.pure rfl (op_not rfl) rfl rfl ?_
    refine GoQ.nil ?_
    refine Go1.condT rfl rfl ?_
    refine Go1.seq ?_
    refine Go1.region ?_
    refine GoR.op ((op_assign rfl) _) rfl rfl ?_
    refine GoR.nil ?_
    refine Go1.ret1 Try.func47 rfl ?_
    exact ⟨false, rfl, hB.same, H⟩
   ·replace H := ifp rfl H
    refine GoQ.pure rfl (op_not rfl) rfl rfl ?_
    refine GoQ.nil ?_
    refine Go1.condF rfl rfl ?_
    refine Go1.skip ?_
    refine Go1.inBlock ?_
    refine Go1.region ?_
    refine GoR.op ((op_add rfl rfl (wrap_i64 (natbd h4 h_a.bd))) _) rfl rfl ?_
    refine GoR.op ((op_move rfl) _) rfl rfl ?_
    refine GoR.nil ?_
    exact hX1 _ H _ _ ⟨⟨rfl, rfl, rfl, rfl, trivial⟩, hO, h_a, h_b, hB⟩
  ·replace H := ifn h4 H
   refine GoR.op ((fun w => opB (op_lss rfl rfl w) (decide_eq_false h4)) _) rfl rfl ?_
   refine GoR.nil ?_
   refine Go1.seq ?_
   refine Go1.condF rfl rfl ?_
   refine Go1.exit rfl ?_
   refine Go1.seq ?_
   refine Go1.region ?_
   refine GoR.op ((op_assign rfl) _) rfl rfl ?_
   refine GoR.nil ?_
   refine Go1.ret1 Try.func47 rfl ?_
   exact ⟨true, rfl, hB.same, H⟩
 ·replace H := ifn h1 H
  refine GoR.op ((fun w => opB (op_neq rfl rfl w) (ndF h1)) _) rfl rfl ?_
  refine GoR.nil ?_
  refine Go1.condT rfl rfl ?_
  refine Go1.seq ?_
  refine Go1.region ?_
  refine GoR.op ((op_assign rfl) _) rfl rfl ?_
  refine GoR.nil ?_
  refine Go1.ret1 Try.func47 rfl ?_
  exact ⟨false, rfl, hB.same, H⟩
theorem body49 : Body Try.prog 49 := ⟨Try.f49, Try.func49, rfl, by kernel_rfl⟩
theorem walk_ref14_Adjoin {A : List Nat} {w0 : World} {p_t : Option Addr} {c_t : Nat} {t : List (List Int)} (hA : ∀ b ∈ A, b < w0.heap.size) (h_t : ISl (Rp.sl (Rp.int .i64)) A w0 p_t c_t t) {K : List (List Int) → Prop} (H : ref14_Adjoin t K) :
    CallsV Try.prog 49 #[.slice p_t t.length c_t] w0 (fun v w' => ∃ (r0 : List (List Int)), ∃ (p_r0 : Option Addr), ∃ (c_r0 : Nat), v = .slice p_r0 r0.length c_r0 ∧ Same w0 w' ∧ ISl (Rp.sl (Rp.int .i64)) A w' p_r0 c_r0 r0 ∧ K r0) := by
 refine CallsV.of (l := [.slice p_t t.length c_t]) Try.func49 rfl Try.ntmps49 rfl ?_
 have hO := Owns.start hA
 have hB := Fr.refl (bl []) w0
 unfold ref14_Adjoin at H
 replace h_t := h_t.ch (Ch.start A w0)
 refine Go1.seq ?_
 refine Go1.region ?_
 refine GoR.op ((op_assign rfl) _) rfl rfl ?_
 refine GoR.nil ?_
 refine Go1.seq ?_
 refine Go1.region ?_
 refine GoR.op ((op_move rfl) _) rfl rfl ?_
 refine GoR.call (op_call body81 rfl (walk_ref03_Copy hO.lt h_t H)) rfl rfl ?_
 rintro v6 w3 ⟨r1, n_r1, p_r1, c_r1, hs_r1, rfl, hs4, hN5, H⟩
 have hst7 := Stp.more hO hs4 hN5
 replace hO := hst7.own
 replace h_t := h_t.ch hst7.ch
 replace hB := hB.trans hst7.fr
 refine GoR.op ((op_assign rfl) _) rfl rfl ?_
 refine GoR.nil ?_
 refine Go1.seq ?_
 refine Go1.region ?_
 refine GoR.op ((op_assign rfl) _) rfl rfl ?_
 refine GoR.nil ?_
 refine Go1.seq ?_
 refine Go1.seq ?_
 refine Go1.region ?_
 refine GoR.op ((op_move rfl) _) rfl rfl ?_
 refine GoR.op ((op_len Try.underlying22 rfl) _) rfl rfl ?_
 replace H := H h_t.bd
 refine GoR.op ((op_move rfl) _) rfl rfl ?_
 refine GoR.nil ?_
 refine Go1.block ?_
 have hst10 := Stp.nil (e := 3) (r := 1) hO
 replace hO := hst10.own
 replace h_t := h_t.ch hst10.ch
 replace hB := hB.trans hst10.fr
 have hE11 := Els.nil (Rp.int .i64) (bl (.row 3 1 none 0 0 [] :: [t2 (Fl.int .i64) 23 3 p_r1 n_r1 c_r1 hs_r1 r1]) ++ A) w3
 refine Go1.loopW (S := Nat × List Int × List (List Int)) (fun s σ w => ∃ (n19 : Nat), ∃ (p17 : Option Addr), ∃ (c18 : Nat), ∃ (vs15 : List Value), ∃ (n23 : Nat), ∃ (p21 : Option Addr), ∃ (c22 : Nat), ∃ (hs24 : Hd), agrees σ [(0, .slice p_t t.length c_t), (3, .slice p21 n23 c22), (4, .slice p17 n19 c18), (9, .int .i64 (t.length : Int)), (10, .int .i64 ((s.1) : Int))] ∧ Owns w0.heap.size w [.row 3 1 p17 n19 c18 vs15, t2 (Fl.int .i64) 23 3 p21 n23 c22 hs24 (s.2.2)] A ∧ Els (Rp.int .i64) (bl [.row 3 1 p17 n19 c18 vs15, t2 (Fl.int .i64) 23 3 p21 n23 c22 hs24 (s.2.2)] ++ A) w vs15 (s.2.1) ∧ ISl (Rp.sl (Rp.int .i64)) (bl [.row 3 1 p17 n19 c18 vs15, t2 (Fl.int .i64) 23 3 p21 n23 c22 hs24 (s.2.2)] ++ A) w p_t c_t t ∧ Fr (bl []) w0 (bl [.row 3 1 p17 n19 c18 vs15, t2 (Fl.int .i64) 23 3 p21 n23 c22 hs24 (s.2.2)]) w) H ⟨0, none, 0, [], n_r1, p_r1, c_r1, hs_r1, ⟨rfl, rfl, rfl, rfl, rfl, trivial⟩, hO, hE11, h_t, hB⟩ ?_
 rintro X1 ⟨k1_13, last1_14, out1_20⟩ H hX1 σ w12 ⟨n19, p17, c18, vs15, n23, p21, c22, hs24, hag, hO, hE16, h_t, hB⟩
 dsimp only at H
 refine Go1.keep [(0, .slice p_t t.length c_t), (3, .slice p21 n23 c22), (4, .slice p17 n19 c18), (9, .int .i64 (t.length : Int)), (10, .int .i64 (k1_13 : Int))] hag ?_
 refine Go1.seq ?_
 refine Go1.region ?_
 by_cases h25 : (k1_13 : Int) < (t.length : Int)
 ·replace H := ifp h25 H
  refine GoR.op ((fun w => opB (op_lss rfl rfl w) (decide_eq_true h25)) _) rfl rfl ?_
  refine GoR.nil ?_
  refine Go1.seq ?_
  refine Go1.condT rfl rfl ?_
  refine Go1.skip ?_
  refine Go1.seq ?_
  refine Go1.block ?_
  refine Go1.seq ?_
  refine Go1.region ?_
  refine GoR.op ((op_move rfl) _) rfl rfl ?_
  refine GoR.op ((op_assign rfl) _) rfl rfl ?_
  refine GoR.nil ?_
  refine Go1.seq ?_
  refine Go1.region ?_
  refine GoR.op ((op_move rfl) _) rfl rfl ?_
  refine GoR.op ((op_move rfl) _) rfl rfl ?_
  refine GoR.op ((op_move rfl) _) rfl rfl ?_
  refine GoR.op ((op_move rfl) _) rfl rfl ?_
  obtain ⟨h26, H⟩ := H
  obtain ⟨h27, H⟩ := H
  refine GoR.op ((op_index Try.underlying22 ti23 rfl rfl h26 (ltn (t2neq 1 hO rfl) h27) (t2some 1 hO rfl h26 h27)) _) rfl rfl ?_
  refine GoR.op ((t2head 1 hO rfl h26 h27 Try.underlying23 rfl rfl) _ (Same.refl _)) rfl rfl ?_
  refine GoR.op ((op_move rfl) _) rfl rfl ?_
  have hobt := obuild (r := Rp.int .i64) (n := 1) (parts := [(0, .int .i64 (k1_13 : Int))]) (vs := [.int .i64 (k1_13 : Int)]) (xs := [(k1_13 : Int)]) rfl Try.underlying23 ti3 hO (by decide) (by kernel_rfl) (Els.cons rfl rfl (Els.nil _ _ _) (by simp [mx])) rfl
  obtain ⟨w28, p29, hst30, hE31, hs32, hop33⟩ := hobt
  refine GoR.op (hop33 rfl) rfl rfl ?_
  replace hE16 := hE16.ch hst30.ch
  replace hO := hst30.own
  replace h_t := h_t.ch hst30.ch
  replace hB := hB.trans hst30.fr
  have hst35 := Stp.front 2 hO rfl
  replace hE31 := hE31.ch hst35.ch
  replace hE16 := hE16.ch hst35.ch
  replace hO := hst35.own
  replace h_t := h_t.ch hst35.ch
  replace hB := hB.trans hst35.fr
  have hobt := t2take (hf := (Fl.int .i64)) hO h26 h27
  obtain ⟨vs36, hst37, hE38⟩ := hobt
  replace hE31 := hE31.ch hst37.ch
  replace hE16 := hE16.ch hst37.ch
  replace hO := hst37.own
  replace h_t := h_t.ch hst37.ch
  replace hB := hB.trans hst37.fr
  have hE40 := hE38 (bl [.row 3 1 (hs24 (k1_13 : Int).toNat).1 ((ix out1_20 (k1_13 : Int)).length) ((hs24 (k1_13 : Int).toNat).2) vs36, t2h (Fl.int .i64) 23 3 p21 n23 c22 hs24 out1_20 (k1_13 : Int).toNat, .row 3 1 p29 1 1 [.int .i64 (k1_13 : Int)], .row 3 1 p17 n19 c18 vs15] ++ A)
  have hobt := freeze 2 hO rfl hE31
  obtain ⟨hO1, hc43, hi41, hn42⟩ := hobt
  replace h_t := h_t.ch hc43
  replace hE40 := hE40.ch hc43
  replace hE16 := hE16.ch hc43
  replace hB := hB.trans (Owns.dropFr _ _ 2)
  replace hO := hO1; clear hO1
  obtain ⟨h44, H⟩ := H
  have hobt := oapp Try.underlying23 ti3 rfl 0 hO rfl hE40 hi41 hn42 h44 (by decide)
  obtain ⟨w45, p46, c47, vs48, hst49, hE50, hop51⟩ := hobt
  refine GoR.op (hop51 rfl rfl) rfl rfl ?_
  replace hE16 := hE16.ch hst49.ch
  replace hO := hst49.own
  replace h_t := h_t.ch hst49.ch
  replace hi41 := hi41.ch hst49.ch
  replace hB := hB.trans hst49.fr
  obtain ⟨h53, H⟩ := H
  obtain ⟨h54, H⟩ := H
  refine GoR.op ((op_index Try.underlying22 ti23 rfl rfl h53 (ltn (t2neqH 1 hO rfl) h54) (t2someH 1 hO rfl h53 h54)) _) rfl rfl ?_
  have hst55 := Stp.front 1 hO rfl
  replace hE50 := hE50.ch hst55.ch
  replace hE16 := hE16.ch hst55.ch
  replace hO := hst55.own
  replace h_t := h_t.ch hst55.ch
  replace hi41 := hi41.ch hst55.ch
  replace hB := hB.trans hst55.fr
  have hst56 := Stp.front 1 hO rfl
  replace hE50 := hE50.ch hst56.ch
  replace hE16 := hE16.ch hst56.ch
  replace hO := hst56.own
  replace h_t := h_t.ch hst56.ch
  replace hi41 := hi41.ch hst56.ch
  replace hB := hB.trans hst56.fr
  have hobt := t2fix (hf := (Fl.int .i64)) hO hE50 h53 h54 rfl
  obtain ⟨w57, hst58, hop59⟩ := hobt
  refine GoR.op (hop59 Try.underlying23 rfl ti23 rfl rfl) rfl rfl ?_
  replace hE16 := hE16.ch hst58.ch
  replace hO := hst58.own
  replace h_t := h_t.ch hst58.ch
  replace hi41 := hi41.ch hst58.ch
  replace hB := hB.trans hst58.fr
  refine GoR.nil ?_
  refine Go1.region ?_
  refine GoR.op ((op_move rfl) _) rfl rfl ?_
  refine GoR.op ((op_move rfl) _) rfl rfl ?_
  have hobt := obuild (r := Rp.int .i64) (n := 1) (parts := [(0, .int .i64 (k1_13 : Int))]) (vs := [.int .i64 (k1_13 : Int)]) (xs := [(k1_13 : Int)]) rfl Try.underlying23 ti3 hO (by decide) (by kernel_rfl) (Els.cons rfl rfl (Els.nil _ _ _) (by simp [mx])) rfl
  obtain ⟨w60, p61, hst62, hE63, hs64, hop65⟩ := hobt
  refine GoR.op (hop65 rfl) rfl rfl ?_
  replace hE16 := hE16.ch hst62.ch
  replace hO := hst62.own
  replace h_t := h_t.ch hst62.ch
  replace hi41 := hi41.ch hst62.ch
  replace hB := hB.trans hst62.fr
  have hobt := freeze 0 hO rfl hE63
  obtain ⟨hO1, hc69, hi67, hn68⟩ := hobt
  replace h_t := h_t.ch hc69
  replace hi41 := hi41.ch hc69
  replace hE16 := hE16.ch hc69
  replace hB := hB.trans (Owns.dropFr _ _ 0)
  replace hO := hO1; clear hO1
  obtain ⟨h70, H⟩ := H
  have hobt := oapp Try.underlying23 ti3 rfl 1 hO rfl hE16 hi67 hn68 h70 (by decide)
  obtain ⟨w71, p72, c73, vs74, hst75, hE76, hop77⟩ := hobt
  refine GoR.op (hop77 rfl rfl) rfl rfl ?_
  replace hO := hst75.own
  replace h_t := h_t.ch hst75.ch
  replace hi41 := hi41.ch hst75.ch
  replace hi67 := hi67.ch hst75.ch
  replace hB := hB.trans hst75.fr
  refine GoR.op ((op_assign rfl) _) rfl rfl ?_
  refine GoR.nil ?_
  refine Go1.inBlock ?_
  refine Go1.region ?_
  refine GoR.op ((op_add rfl rfl (wrap_i64 (natbd h25 h_t.bd))) _) rfl rfl ?_
  refine GoR.op ((op_move rfl) _) rfl rfl ?_
  refine GoR.nil ?_
  have hst79 := Stp.front 1 hO rfl
  replace hE76 := hE76.ch hst79.ch
  replace hO := hst79.own
  replace h_t := h_t.ch hst79.ch
  replace hi41 := hi41.ch hst79.ch
  replace hi67 := hi67.ch hst79.ch
  replace hB := hB.trans hst79.fr
  exact hX1 _ H _ _ ⟨n19 + 1, p72, c73, vs74, n23, p21, c22, hup hs24 (k1_13 : Int).toNat (p46, c47), ⟨rfl, rfl, rfl, rfl, rfl, trivial⟩, hO, hE76, h_t, hB⟩
 ·replace H := ifn h25 H
  refine GoR.op ((fun w => opB (op_lss rfl rfl w) (decide_eq_false h25)) _) rfl rfl ?_
  refine GoR.nil ?_
  refine Go1.seq ?_
  refine Go1.condF rfl rfl ?_
  refine Go1.exit rfl ?_
  refine Go1.seq ?_
  refine Go1.region ?_
  refine GoR.op ((op_move rfl) _) rfl rfl ?_
  refine GoR.op ((op_move rfl) _) rfl rfl ?_
  refine GoR.op ((op_move rfl) _) rfl rfl ?_
  refine GoR.op ((op_len Try.underlying22 rfl) _) rfl rfl ?_
  have hobt := obuild (r := Rp.int .i64) (n := 1) (parts := [(0, .int .i64 (t.length : Int))]) (vs := [.int .i64 (t.length : Int)]) (xs := [(t.length : Int)]) rfl Try.underlying23 ti3 hO (by decide) (by kernel_rfl) (Els.cons rfl rfl (Els.nil _ _ _) (by simp [mx])) rfl
  obtain ⟨w80, p81, hst82, hE83, hs84, hop85⟩ := hobt
  refine GoR.op (hop85 rfl) rfl rfl ?_
  replace hE16 := hE16.ch hst82.ch
  replace hO := hst82.own
  replace h_t := h_t.ch hst82.ch
  replace hB := hB.trans hst82.fr
  have hobt := freeze 0 hO rfl hE83
  obtain ⟨hO1, hc89, hi87, hn88⟩ := hobt
  replace h_t := h_t.ch hc89
  replace hE16 := hE16.ch hc89
  replace hB := hB.trans (Owns.dropFr _ _ 0)
  replace hO := hO1; clear hO1
  obtain ⟨h90, H⟩ := H
  have hobt := oapp Try.underlying23 ti3 rfl 0 hO rfl hE16 hi87 hn88 h90 (by decide)
  obtain ⟨w91, p92, c93, vs94, hst95, hE96, hop97⟩ := hobt
  refine GoR.op (hop97 rfl rfl) rfl rfl ?_
  replace hO := hst95.own
  replace h_t := h_t.ch hst95.ch
  replace hi87 := hi87.ch hst95.ch
  replace hB := hB.trans hst95.fr
  have hobt := t2build1 (Fl.int .i64) Try.underlying22 ti23 hO hE96
  obtain ⟨w99, p100, hst101, hop102⟩ := hobt
  refine GoR.op (hop102 rfl) rfl rfl ?_
  replace hO := hst101.own
  replace h_t := h_t.ch hst101.ch
  replace hi87 := hi87.ch hst101.ch
  replace hB := hB.trans hst101.fr
  have hst104 := Stp.front 1 hO rfl
  replace hO := hst104.own
  replace h_t := h_t.ch hst104.ch
  replace hi87 := hi87.ch hst104.ch
  replace hB := hB.trans hst104.fr
  have hst105 := Stp.front 1 hO rfl
  replace hO := hst105.own
  replace h_t := h_t.ch hst105.ch
  replace hi87 := hi87.ch hst105.ch
  replace hB := hB.trans hst105.fr
  obtain ⟨h106, H⟩ := H
  have hobt := t2cat Try.underlying22 ti23 hO h106 (by decide)
  obtain ⟨w107, p108, c109, hst110, hop111⟩ := hobt
  refine GoR.op (hop111 rfl rfl) rfl rfl ?_
  replace hO := hst110.own
  replace h_t := h_t.ch hst110.ch
  replace hi87 := hi87.ch hst110.ch
  replace hB := hB.trans hst110.fr
  refine GoR.op ((op_assign rfl) _) rfl rfl ?_
  refine GoR.nil ?_
  have hobt := t2freezeA 0 hO rfl
  obtain ⟨hO1, hc114, hi112, hn113⟩ := hobt
  replace h_t := h_t.ch hc114
  replace hi87 := hi87.ch hc114
  replace hB := hB.trans (Owns.dropFr _ _ 0)
  replace hO := hO1; clear hO1
  refine Go1.ret1 Try.func49 rfl ?_
  exact ⟨out1_20 ++ ([last1_14 ++ ([(t.length : Int)])]), p108, c109, ((congrArg (fun nn => Value.slice p108 nn c109) hn113)), hB.same, (hi112.ch (Ch.weak _ _ _)), H⟩
theorem body50 : Body Try.prog 50 := ⟨Try.f50, Try.func50, rfl, by kernel_rfl⟩
theorem walk_ref14_Direct {A : List Nat} {w0 : World} {p_t : Option Addr} {c_t : Nat} {p_u : Option Addr} {c_u : Nat} {t : List (List Int)} {u : List (List Int)} (hA : ∀ b ∈ A, b < w0.heap.size) (h_t : ISl (Rp.sl (Rp.int .i64)) A w0 p_t c_t t) (h_u : ISl (Rp.sl (Rp.int .i64)) A w0 p_u c_u u) {K : List (List Int) → Prop} (H : ref14_Direct t u K) :
    CallsV Try.prog 50 #[.slice p_t t.length c_t, .slice p_u u.length c_u] w0 (fun v w' => ∃ (r0 : List (List Int)), ∃ (p_r0 : Option Addr), ∃ (c_r0 : Nat), v = .slice p_r0 r0.length c_r0 ∧ Same w0 w' ∧ ISl (Rp.sl (Rp.int .i64)) A w' p_r0 c_r0 r0 ∧ K r0) := by
 refine CallsV.of (l := [.slice p_t t.length c_t, .slice p_u u.length c_u]) Try.func50 rfl Try.ntmps50 rfl ?_
 have hO := Owns.start hA
 have hB := Fr.refl (bl []) w0
 unfold ref14_Direct at H
 replace h_t := h_t.ch (Ch.start A w0)
 replace h_u := h_u.ch (Ch.start A w0)
 refine Go1.seq ?_
 refine Go1.region ?_
 refine GoR.op ((op_assign rfl) _) rfl rfl ?_
 refine GoR.nil ?_
 refine Go1.seq ?_
 refine Go1.region ?_
 refine GoR.op ((op_assign rfl) _) rfl rfl ?_
 refine GoR.nil ?_
 refine Go1.seq ?_
 refine Go1.seq ?_
 refine Go1.region ?_
 refine GoR.op ((op_move rfl) _) rfl rfl ?_
 refine GoR.op ((op_len Try.underlying22 rfl) _) rfl rfl ?_
 replace H := H h_t.bd
 refine GoR.op ((op_move rfl) _) rfl rfl ?_
 refine GoR.nil ?_
 refine Go1.block ?_
 have hst2 := Stp.nil (e := 23) (r := 1) hO
 replace hO := hst2.own
 replace h_t := h_t.ch hst2.ch
 replace h_u := h_u.ch hst2.ch
 replace hB := hB.trans hst2.fr
 have hE3 := Els.nil (Rp.sl (Rp.int .i64)) (bl (.row 23 1 none 0 0 [] :: []) ++ A) w0
 refine Go1.loopW (S := Nat × List (List Int)) (fun s σ w => ∃ (n11 : Nat), ∃ (p9 : Option Addr), ∃ (c10 : Nat), ∃ (vs7 : List Value), agrees σ [(0, .slice p_t t.length c_t), (1, .slice p_u u.length c_u), (5, .slice p9 n11 c10), (12, .int .i64 (t.length : Int)), (13, .int .i64 ((s.1) : Int))] ∧ Owns w0.heap.size w [.row 23 1 p9 n11 c10 vs7] A ∧ Els (Rp.sl (Rp.int .i64)) (bl [.row 23 1 p9 n11 c10 vs7] ++ A) w vs7 (s.2) ∧ ISl (Rp.sl (Rp.int .i64)) (bl [.row 23 1 p9 n11 c10 vs7] ++ A) w p_t c_t t ∧ ISl (Rp.sl (Rp.int .i64)) (bl [.row 23 1 p9 n11 c10 vs7] ++ A) w p_u c_u u ∧ Fr (bl []) w0 (bl [.row 23 1 p9 n11 c10 vs7]) w) H ⟨0, none, 0, [], ⟨rfl, rfl, rfl, rfl, rfl, trivial⟩, hO, hE3, h_t, h_u, hB⟩ ?_
 rintro X1 ⟨k1_5, out1_6⟩ H hX1 σ w4 ⟨n11, p9, c10, vs7, hag, hO, hE8, h_t, h_u, hB⟩
 dsimp only at H
 refine Go1.keep [(0, .slice p_t t.length c_t), (1, .slice p_u u.length c_u), (5, .slice p9 n11 c10), (12, .int .i64 (t.length : Int)), (13, .int .i64 (k1_5 : Int))] hag ?_
 refine Go1.seq ?_
 refine Go1.region ?_
 by_cases h12 : (k1_5 : Int) < (t.length : Int)
 ·replace H := ifp h12 H
  refine GoR.op ((fun w => opB (op_lss rfl rfl w) (decide_eq_true h12)) _) rfl rfl ?_
  refine GoR.nil ?_
  refine Go1.seq ?_
  refine Go1.condT rfl rfl ?_
  refine Go1.skip ?_
  refine Go1.seq ?_
  refine Go1.block ?_
  refine Go1.seq ?_
  refine Go1.region ?_
  refine GoR.op ((op_move rfl) _) rfl rfl ?_
  refine GoR.op ((op_assign rfl) _) rfl rfl ?_
  refine GoR.nil ?_
  refine Go1.seq ?_
  refine Go1.region ?_
  refine GoR.op ((op_move rfl) _) rfl rfl ?_
  refine GoR.op ((op_len Try.underlying22 rfl) _) rfl rfl ?_
  replace H := H h_u.bd
  refine GoR.op ((op_move rfl) _) rfl rfl ?_
  refine GoR.nil ?_
  refine Go1.block ?_
  refine Go1.loopW (S := Nat × List (List Int)) (fun s σ w => ∃ (n20 : Nat), ∃ (p18 : Option Addr), ∃ (c19 : Nat), ∃ (vs16 : List Value), agrees σ [(0, .slice p_t t.length c_t), (1, .slice p_u u.length c_u), (5, .slice p18 n20 c19), (6, .int .i64 (k1_5 : Int)), (12, .int .i64 (t.length : Int)), (13, .int .i64 (k1_5 : Int)), (17, .int .i64 (u.length : Int)), (18, .int .i64 ((s.1) : Int))] ∧ Owns w0.heap.size w [.row 23 1 p18 n20 c19 vs16] A ∧ Els (Rp.sl (Rp.int .i64)) (bl [.row 23 1 p18 n20 c19 vs16] ++ A) w vs16 (s.2) ∧ ISl (Rp.sl (Rp.int .i64)) (bl [.row 23 1 p18 n20 c19 vs16] ++ A) w p_t c_t t ∧ ISl (Rp.sl (Rp.int .i64)) (bl [.row 23 1 p18 n20 c19 vs16] ++ A) w p_u c_u u ∧ Fr (bl []) w0 (bl [.row 23 1 p18 n20 c19 vs16]) w) H ⟨n11, p9, c10, vs7, ⟨rfl, rfl, rfl, rfl, rfl, rfl, rfl, rfl, trivial⟩, hO, hE8, h_t, h_u, hB⟩ ?_
  rintro X2 ⟨k2_14, out2_15⟩ H hX2 σ w13 ⟨n20, p18, c19, vs16, hag, hO, hE17, h_t, h_u, hB⟩
  dsimp only at H
  refine Go1.keep [(0, .slice p_t t.length c_t), (1, .slice p_u u.length c_u), (5, .slice p18 n20 c19), (6, .int .i64 (k1_5 : Int)), (12, .int .i64 (t.length : Int)), (13, .int .i64 (k1_5 : Int)), (17, .int .i64 (u.length : Int)), (18, .int .i64 (k2_14 : Int))] hag ?_
  refine Go1.seq ?_
  refine Go1.region ?_
  by_cases h21 : (k2_14 : Int) < (u.length : Int)
  ·replace H := ifp h21 H
   refine GoR.op ((fun w => opB (op_lss rfl rfl w) (decide_eq_true h21)) _) rfl rfl ?_
   refine GoR.nil ?_
   refine Go1.seq ?_
   refine Go1.condT rfl rfl ?_
   refine Go1.skip ?_
   refine Go1.seq ?_
   refine Go1.block ?_
   refine Go1.seq ?_
   refine Go1.region ?_
   refine GoR.op ((op_move rfl) _) rfl rfl ?_
   refine GoR.op ((op_assign rfl) _) rfl rfl ?_
   refine GoR.nil ?_
   refine Go1.seq ?_
   refine Go1.region ?_
   refine GoR.op ((op_assign rfl) _) rfl rfl ?_
   refine GoR.nil ?_
   refine Go1.seq ?_
   refine Go1.seq ?_
   refine Go1.region ?_
   refine GoR.op ((op_move rfl) _) rfl rfl ?_
   refine GoR.op ((op_len Try.underlying22 rfl) _) rfl rfl ?_
   refine GoR.op ((op_move rfl) _) rfl rfl ?_
   refine GoR.nil ?_
   refine Go1.block ?_
   have hst23 := Stp.nil (e := 3) (r := 1) hO
   replace hE17 := hE17.ch hst23.ch
   replace hO := hst23.own
   replace h_t := h_t.ch hst23.ch
   replace h_u := h_u.ch hst23.ch
   replace hB := hB.trans hst23.fr
   have hE24 := Els.nil (Rp.int .i64) (bl (.row 3 1 none 0 0 [] :: [.row 23 1 p18 n20 c19 vs16]) ++ A) w13
   refine Go1.loopW (S := Nat × List Int) (fun s σ w => ∃ (n32 : Nat), ∃ (p30 : Option Addr), ∃ (c31 : Nat), ∃ (vs28 : List Value), agrees σ [(0, .slice p_t t.length c_t), (1, .slice p_u u.length c_u), (5, .slice p18 n20 c19), (6, .int .i64 (k1_5 : Int)), (7, .int .i64 (k2_14 : Int)), (8, .slice p30 n32 c31), (12, .int .i64 (t.length : Int)), (13, .int .i64 (k1_5 : Int)), (17, .int .i64 (u.length : Int)), (18, .int .i64 (k2_14 : Int)), (22, .int .i64 (t.length : Int)), (23, .int .i64 ((s.1) : Int))] ∧ Owns w0.heap.size w [.row 3 1 p30 n32 c31 vs28, .row 23 1 p18 n20 c19 vs16] A ∧ Els (Rp.int .i64) (bl [.row 3 1 p30 n32 c31 vs28, .row 23 1 p18 n20 c19 vs16] ++ A) w vs28 (s.2) ∧ Els (Rp.sl (Rp.int .i64)) (bl [.row 3 1 p30 n32 c31 vs28, .row 23 1 p18 n20 c19 vs16] ++ A) w vs16 out2_15 ∧ ISl (Rp.sl (Rp.int .i64)) (bl [.row 3 1 p30 n32 c31 vs28, .row 23 1 p18 n20 c19 vs16] ++ A) w p_t c_t t ∧ ISl (Rp.sl (Rp.int .i64)) (bl [.row 3 1 p30 n32 c31 vs28, .row 23 1 p18 n20 c19 vs16] ++ A) w p_u c_u u ∧ Fr (bl []) w0 (bl [.row 3 1 p30 n32 c31 vs28, .row 23 1 p18 n20 c19 vs16]) w) H ⟨0, none, 0, [], ⟨rfl, rfl, rfl, rfl, rfl, rfl, rfl, rfl, rfl, rfl, rfl, rfl, trivial⟩, hO, hE24, hE17, h_t, h_u, hB⟩ ?_
   rintro X3 ⟨k3_26, row3_27⟩ H hX3 σ w25 ⟨n32, p30, c31, vs28, hag, hO, hE29, hE17, h_t, h_u, hB⟩
   dsimp only at H
   refine Go1.keep [(0, .slice p_t t.length c_t), (1, .slice p_u u.length c_u), (5, .slice p18 n20 c19), (6, .int .i64 (k1_5 : Int)), (7, .int .i64 (k2_14 : Int)), (8, .slice p30 n32 c31), (12, .int .i64 (t.length : Int)), (13, .int .i64 (k1_5 : Int)), (17, .int .i64 (u.length : Int)), (18, .int .i64 (k2_14 : Int)), (22, .int .i64 (t.length : Int)), (23, .int .i64 (k3_26 : Int))] hag ?_
   refine Go1.seq ?_
   refine Go1.region ?_
   by_cases h33 : (k3_26 : Int) < (t.length : Int)
   ·replace H := ifp h33 H
    refine GoR.op ((fun w => opB (op_lss rfl rfl w) (decide_eq_true h33)) _) rfl rfl ?_
    refine GoR.nil ?_
    refine Go1.seq ?_
    refine Go1.condT rfl rfl ?_
    refine Go1.skip ?_
    refine Go1.seq ?_
    refine Go1.block ?_
    refine Go1.seq ?_
    refine Go1.region ?_
    refine GoR.op ((op_move rfl) _) rfl rfl ?_
    refine GoR.op ((op_assign rfl) _) rfl rfl ?_
    refine GoR.nil ?_
    refine Go1.seq ?_
    refine Go1.region ?_
    refine GoR.op ((op_move rfl) _) rfl rfl ?_
    refine GoR.op ((op_len Try.underlying22 rfl) _) rfl rfl ?_
    refine GoR.op ((op_move rfl) _) rfl rfl ?_
    refine GoR.nil ?_
    refine Go1.block ?_
    refine Go1.loopW (S := Nat × List Int) (fun s σ w => ∃ (n41 : Nat), ∃ (p39 : Option Addr), ∃ (c40 : Nat), ∃ (vs37 : List Value), agrees σ [(0, .slice p_t t.length c_t), (1, .slice p_u u.length c_u), (5, .slice p18 n20 c19), (6, .int .i64 (k1_5 : Int)), (7, .int .i64 (k2_14 : Int)), (8, .slice p39 n41 c40), (9, .int .i64 (k3_26 : Int)), (12, .int .i64 (t.length : Int)), (13, .int .i64 (k1_5 : Int)), (17, .int .i64 (u.length : Int)), (18, .int .i64 (k2_14 : Int)), (22, .int .i64 (t.length : Int)), (23, .int .i64 (k3_26 : Int)), (27, .int .i64 (u.length : Int)), (28, .int .i64 ((s.1) : Int))] ∧ Owns w0.heap.size w [.row 3 1 p39 n41 c40 vs37, .row 23 1 p18 n20 c19 vs16] A ∧ Els (Rp.int .i64) (bl [.row 3 1 p39 n41 c40 vs37, .row 23 1 p18 n20 c19 vs16] ++ A) w vs37 (s.2) ∧ Els (Rp.sl (Rp.int .i64)) (bl [.row 3 1 p39 n41 c40 vs37, .row 23 1 p18 n20 c19 vs16] ++ A) w vs16 out2_15 ∧ ISl (Rp.sl (Rp.int .i64)) (bl [.row 3 1 p39 n41 c40 vs37, .row 23 1 p18 n20 c19 vs16] ++ A) w p_t c_t t ∧ ISl (Rp.sl (Rp.int .i64)) (bl [.row 3 1 p39 n41 c40 vs37, .row 23 1 p18 n20 c19 vs16] ++ A) w p_u c_u u ∧ Fr (bl []) w0 (bl [.row 3 1 p39 n41 c40 vs37, .row 23 1 p18 n20 c19 vs16]) w) H ⟨n32, p30, c31, vs28, ⟨rfl, rfl, rfl, rfl, rfl, rfl, rfl, rfl, rfl, rfl, rfl, rfl, rfl, rfl, rfl, trivial⟩, hO, hE29, hE17, h_t, h_u, hB⟩ ?_
    rintro X4 ⟨k4_35, row4_36⟩ H hX4 σ w34 ⟨n41, p39, c40, vs37, hag, hO, hE38, hE17, h_t, h_u, hB⟩
    dsimp only at H
    refine Go1.keep [(0, .slice p_t t.length c_t), (1, .slice p_u u.length c_u), (5, .slice p18 n20 c19), (6, .int .i64 (k1_5 : Int)), (7, .int .i64 (k2_14 : Int)), (8, .slice p39 n41 c40), (9, .int .i64 (k3_26 : Int)), (12, .int .i64 (t.length : Int)), (13, .int .i64 (k1_5 : Int)), (17, .int .i64 (u.length : Int)), (18, .int .i64 (k2_14 : Int)), (22, .int .i64 (t.length : Int)), (23, .int .i64 (k3_26 : Int)), (27, .int .i64 (u.length : Int)), (28, .int .i64 (k4_35 : Int))] hag ?_
    refine Go1.seq ?_
    refine Go1.region ?_
    by_cases h42 : (k4_35 : Int) < (u.length : Int)
    ·replace H := ifp h42 H
     refine GoR.op ((fun w => opB (op_lss rfl rfl w) (decide_eq_true h42)) _) rfl rfl ?_
     refine GoR.nil ?_
     refine Go1.seq ?_
     refine Go1.condT rfl rfl ?_
     refine Go1.skip ?_
     refine Go1.seq ?_
     refine Go1.block ?_
     refine Go1.seq ?_
     refine Go1.region ?_
     refine GoR.op ((op_move rfl) _) rfl rfl ?_
     refine GoR.op ((op_assign rfl) _) rfl rfl ?_
     refine GoR.nil ?_
     refine Go1.drawS 6 [(0, .pure), (1, .pure), (2, .pure), (3, .pure), (4, .stable), (5, .pure), (6, .pure), (7, .stable), (8, .pure), (9, .pure), (10, .pure), (11, .pure), (12, .pure), (13, .pure), (14, .stable), (15, .pure), (16, .pure), (17, .stable), (18, .pure), (19, .loud), (20, .last), (21, .pure)] mixed (by kernel_rfl) ?_
     intro w43 hs44
     have hst45 := Stp.same hO hs44
     replace hE38 := hE38.ch hst45.ch
     replace hE17 := hE17.ch hst45.ch
     replace hO := hst45.own
     replace h_t := h_t.ch hst45.ch
     replace h_u := h_u.ch hst45.ch
     replace hB := hB.trans hst45.fr
     refine GoQ.pure rfl (op_move rfl) rfl rfl ?_
     refine GoQ.pure rfl (op_move rfl) rfl rfl ?_
     refine GoQ.pure rfl (op_move rfl) rfl rfl ?_
     obtain ⟨h46, H⟩ := H
     obtain ⟨h47, H⟩ := H
     refine GoQ.pure rfl (op_index Try.underlying22 ti23 rfl rfl h46 h47 (h_t.some_ h46 h47)) rfl rfl ?_
     have hobt := ldSl h_t h46 h47
     obtain ⟨p48, c49, hi50, hl51⟩ := hobt
     refine GoQ.stable rfl (hl51 Try.underlying23 rfl rfl) rfl rfl ?_
     refine GoQ.pure rfl (op_move rfl) rfl rfl ?_
     obtain ⟨h52, H⟩ := H
     obtain ⟨h53, H⟩ := H
     refine GoQ.pure rfl (op_index Try.underlying23 ti3 rfl rfl h52 h53 (hi50.some_ h52 h53)) rfl rfl ?_
     refine GoQ.stable rfl (ldInt hi50 h52 h53 Try.underlying3 rfl rfl) rfl rfl ?_
     refine GoQ.pure rfl (op_move rfl) rfl rfl ?_
     refine GoQ.pure rfl (op_len Try.underlying22 rfl) rfl rfl ?_
     obtain ⟨h54, H⟩ := H
     refine GoQ.pure rfl (op_mul rfl rfl (wrap_i64 h54)) rfl rfl ?_
     refine GoQ.pure rfl (op_move rfl) rfl rfl ?_
     refine GoQ.pure rfl (op_move rfl) rfl rfl ?_
     obtain ⟨h55, H⟩ := H
     obtain ⟨h56, H⟩ := H
     refine GoQ.pure rfl (op_index Try.underlying22 ti23 rfl rfl h55 h56 (h_u.some_ h55 h56)) rfl rfl ?_
     have hobt := ldSl h_u h55 h56
     obtain ⟨p57, c58, hi59, hl60⟩ := hobt
     refine GoQ.stable rfl (hl60 Try.underlying23 rfl rfl) rfl rfl ?_
     refine GoQ.pure rfl (op_move rfl) rfl rfl ?_
     obtain ⟨h61, H⟩ := H
     obtain ⟨h62, H⟩ := H
     refine GoQ.pure rfl (op_index Try.underlying23 ti3 rfl rfl h61 h62 (hi59.some_ h61 h62)) rfl rfl ?_
     refine GoQ.stable rfl (ldInt hi59 h61 h62 Try.underlying3 rfl rfl) rfl rfl ?_
     obtain ⟨h63, H⟩ := H
     refine GoQ.pure rfl (op_add rfl rfl (wrap_i64 h63)) rfl rfl ?_
     have hobt := obuild (r := Rp.int .i64) (n := 1) (parts := [(0, .int .i64 (((ix (ix t (k1_5 : Int)) (k3_26 : Int)) * (u.length : Int)) + (ix (ix u (k2_14 : Int)) (k4_35 : Int))))]) (vs := [.int .i64 (((ix (ix t (k1_5 : Int)) (k3_26 : Int)) * (u.length : Int)) + (ix (ix u (k2_14 : Int)) (k4_35 : Int)))]) (xs := [(((ix (ix t (k1_5 : Int)) (k3_26 : Int)) * (u.length : Int)) + (ix (ix u (k2_14 : Int)) (k4_35 : Int)))]) rfl Try.underlying23 ti3 hO (by decide) (by kernel_rfl) (Els.cons rfl rfl (Els.nil _ _ _) (by simp [mx])) rfl
     obtain ⟨w64, p65, hst66, hE67, hs68, hop69⟩ := hobt
     refine GoQ.loud rfl (hop69 rfl) hs68 rfl rfl ?_
     replace hE38 := hE38.ch hst66.ch
     replace hE17 := hE17.ch hst66.ch
     replace hO := hst66.own
     replace h_t := h_t.ch hst66.ch
     replace h_u := h_u.ch hst66.ch
     replace hi50 := hi50.ch hst66.ch
     replace hi59 := hi59.ch hst66.ch
     replace hB := hB.trans hst66.fr
     have hobt := freeze 0 hO rfl hE67
     obtain ⟨hO1, hc73, hi71, hn72⟩ := hobt
     replace h_t := h_t.ch hc73
     replace h_u := h_u.ch hc73
     replace hi50 := hi50.ch hc73
     replace hi59 := hi59.ch hc73
     replace hE38 := hE38.ch hc73
     replace hE17 := hE17.ch hc73
     replace hB := hB.trans (Owns.dropFr _ _ 0)
     replace hO := hO1; clear hO1
     obtain ⟨h74, H⟩ := H
     have hobt := oapp Try.underlying23 ti3 rfl 0 hO rfl hE38 hi71 hn72 h74 (by decide)
     obtain ⟨w75, p76, c77, vs78, hst79, hE80, hop81⟩ := hobt
     refine GoQ.last rfl (hop81 rfl rfl) rfl rfl ?_
     replace hE17 := hE17.ch hst79.ch
     replace hO := hst79.own
     replace h_t := h_t.ch hst79.ch
     replace h_u := h_u.ch hst79.ch
     replace hi50 := hi50.ch hst79.ch
     replace hi59 := hi59.ch hst79.ch
     replace hi71 := hi71.ch hst79.ch
     replace hB := hB.trans hst79.fr
     refine GoQ.pure rfl (op_assign rfl) rfl rfl ?_
     refine GoQ.nil ?_
     refine Go1.inBlock ?_
     refine Go1.region ?_
     refine GoR.op ((op_add rfl rfl (wrap_i64 (natbd h42 h_u.bd))) _) rfl rfl ?_
     refine GoR.op ((op_move rfl) _) rfl rfl ?_
     refine GoR.nil ?_
     exact hX4 _ H _ _ ⟨n41 + 1, p76, c77, vs78, ⟨rfl, rfl, rfl, rfl, rfl, rfl, rfl, rfl, rfl, rfl, rfl, rfl, rfl, rfl, rfl, trivial⟩, hO, hE80, hE17, h_t, h_u, hB⟩
    ·replace H := ifn h42 H
     refine GoR.op ((fun w => opB (op_lss rfl rfl w) (decide_eq_false h42)) _) rfl rfl ?_
     refine GoR.nil ?_
     refine Go1.seq ?_
     refine Go1.condF rfl rfl ?_
     refine Go1.exit rfl ?_
     refine Go1.inBlock ?_
     refine Go1.region ?_
     refine GoR.op ((op_add rfl rfl (wrap_i64 (natbd h33 h_t.bd))) _) rfl rfl ?_
     refine GoR.op ((op_move rfl) _) rfl rfl ?_
     refine GoR.nil ?_
     exact hX3 _ H _ _ ⟨n41, p39, c40, vs37, ⟨rfl, rfl, rfl, rfl, rfl, rfl, rfl, rfl, rfl, rfl, rfl, rfl, trivial⟩, hO, hE38, hE17, h_t, h_u, hB⟩
   ·replace H := ifn h33 H
    refine GoR.op ((fun w => opB (op_lss rfl rfl w) (decide_eq_false h33)) _) rfl rfl ?_
    refine GoR.nil ?_
    refine Go1.seq ?_
    refine Go1.condF rfl rfl ?_
    refine Go1.exit rfl ?_
    refine Go1.region ?_
    refine GoR.op ((op_move rfl) _) rfl rfl ?_
    refine GoR.op ((op_move rfl) _) rfl rfl ?_
    have hobt := freeze 0 hO rfl hE29
    obtain ⟨hO1, hc85, hi83, hn84⟩ := hobt
    replace h_t := h_t.ch hc85
    replace h_u := h_u.ch hc85
    replace hE17 := hE17.ch hc85
    replace hB := hB.trans (Owns.dropFr _ _ 0)
    replace hO := hO1; clear hO1
    have hobt := obuild (r := Rp.sl (Rp.int .i64)) (n := 1) (parts := [(0, .slice p30 n32 c31)]) (vs := [.slice p30 n32 c31]) (xs := [row3_27]) rfl Try.underlying22 ti23 hO (by decide) (by kernel_rfl) (Els.cons rfl ⟨p30, c31, congrArg some (congrArg (fun nn => Value.slice p30 nn c31) hn84), hi83⟩ (Els.nil _ _ _) (by simp [mx])) rfl
    obtain ⟨w86, p87, hst88, hE89, hs90, hop91⟩ := hobt
    refine GoR.op (hop91 rfl) rfl rfl ?_
    replace hE17 := hE17.ch hst88.ch
    replace hO := hst88.own
    replace h_t := h_t.ch hst88.ch
    replace h_u := h_u.ch hst88.ch
    replace hi83 := hi83.ch hst88.ch
    replace hB := hB.trans hst88.fr
    have hobt := freeze 0 hO rfl hE89
    obtain ⟨hO1, hc95, hi93, hn94⟩ := hobt
    replace h_t := h_t.ch hc95
    replace h_u := h_u.ch hc95
    replace hi83 := hi83.ch hc95
    replace hE17 := hE17.ch hc95
    replace hB := hB.trans (Owns.dropFr _ _ 0)
    replace hO := hO1; clear hO1
    obtain ⟨h96, H⟩ := H
    have hobt := oapp Try.underlying22 ti23 rfl 0 hO rfl hE17 hi93 hn94 h96 (by decide)
    obtain ⟨w97, p98, c99, vs100, hst101, hE102, hop103⟩ := hobt
    refine GoR.op (hop103 rfl rfl) rfl rfl ?_
    replace hO := hst101.own
    replace h_t := h_t.ch hst101.ch
    replace h_u := h_u.ch hst101.ch
    replace hi83 := hi83.ch hst101.ch
    replace hi93 := hi93.ch hst101.ch
    replace hB := hB.trans hst101.fr
    refine GoR.op ((op_assign rfl) _) rfl rfl ?_
    refine GoR.nil ?_
    refine Go1.inBlock ?_
    refine Go1.region ?_
    refine GoR.op ((op_add rfl rfl (wrap_i64 (natbd h21 h_u.bd))) _) rfl rfl ?_
    refine GoR.op ((op_move rfl) _) rfl rfl ?_
    refine GoR.nil ?_
    exact hX2 _ H _ _ ⟨n20 + 1, p98, c99, vs100, ⟨rfl, rfl, rfl, rfl, rfl, rfl, rfl, rfl, trivial⟩, hO, hE102, h_t, h_u, hB⟩
  ·replace H := ifn h21 H
   refine GoR.op ((fun w => opB (op_lss rfl rfl w) (decide_eq_false h21)) _) rfl rfl ?_
   refine GoR.nil ?_
   refine Go1.seq ?_
   refine Go1.condF rfl rfl ?_
   refine Go1.exit rfl ?_
   refine Go1.inBlock ?_
   refine Go1.region ?_
   refine GoR.op ((op_add rfl rfl (wrap_i64 (natbd h12 h_t.bd))) _) rfl rfl ?_
   refine GoR.op ((op_move rfl) _) rfl rfl ?_
   refine GoR.nil ?_
   exact hX1 _ H _ _ ⟨n20, p18, c19, vs16, ⟨rfl, rfl, rfl, rfl, rfl, trivial⟩, hO, hE17, h_t, h_u, hB⟩
 ·replace H := ifn h12 H
  refine GoR.op ((fun w => opB (op_lss rfl rfl w) (decide_eq_false h12)) _) rfl rfl ?_
  refine GoR.nil ?_
  refine Go1.seq ?_
  refine Go1.condF rfl rfl ?_
  refine Go1.exit rfl ?_
  refine Go1.seq ?_
  refine Go1.region ?_
  refine GoR.op ((op_move rfl) _) rfl rfl ?_
  refine GoR.op ((op_assign rfl) _) rfl rfl ?_
  refine GoR.nil ?_
  have hobt := freeze 0 hO rfl hE8
  obtain ⟨hO1, hc107, hi105, hn106⟩ := hobt
  replace h_t := h_t.ch hc107
  replace h_u := h_u.ch hc107
  replace hB := hB.trans (Owns.dropFr _ _ 0)
  replace hO := hO1; clear hO1
  refine Go1.ret1 Try.func50 rfl ?_
  exact ⟨out1_6, p9, c10, ((congrArg (fun nn => Value.slice p9 nn c10) hn106)), hB.same, (hi105.ch (Ch.weak _ _ _)), H⟩
theorem body10 : Body Try.prog 10 := ⟨Try.f10, Try.func10, rfl, by kernel_rfl⟩
theorem walk_law14_MultMakes {A : List Nat} {w0 : World} {p_a0 : Option Addr} {c_a0 : Nat} {p_a1 : Option Addr} {c_a1 : Nat} {a0 : List (List Int)} {a1 : List (List Int)} (hA : ∀ b ∈ A, b < w0.heap.size) (h_a0 : ISl (Rp.sl (Rp.int .i64)) A w0 p_a0 c_a0 a0) (h_a1 : ISl (Rp.sl (Rp.int .i64)) A w0 p_a1 c_a1 a1) {K : Bool → Prop} (H : law14_MultMakes a0 a1 K) :
    CallsV Try.prog 10 #[.slice p_a0 a0.length c_a0, .slice p_a1 a1.length c_a1] w0 (fun v w' => ∃ (r0 : Bool), v = .bool r0 ∧ Same w0 w' ∧ K r0) := by
 refine CallsV.of (l := [.slice p_a0 a0.length c_a0, .slice p_a1 a1.length c_a1]) Try.func10 rfl Try.ntmps10 rfl ?_
 have hO := Owns.start hA
 have hB := Fr.refl (bl []) w0
 unfold law14_MultMakes at H
 replace h_a0 := h_a0.ch (Ch.start A w0)
 replace h_a1 := h_a1.ch (Ch.start A w0)
 refine Go1.seq ?_
 refine Go1.region ?_
 refine GoR.op ((op_assign rfl) _) rfl rfl ?_
 refine GoR.nil ?_
 refine Go1.seq ?_
 refine Go1.seq ?_
 refine Go1.region ?_
 refine GoR.op ((op_move rfl) _) rfl rfl ?_
 refine GoR.call (op_call body19 rfl (walk_ref14_Shape hO.lt h_a0 H)) rfl rfl ?_
 rintro v5 w2 ⟨r1, rfl, hs3, H⟩
 have hst6 := Stp.same hO hs3
 replace hO := hst6.own
 replace h_a0 := h_a0.ch hst6.ch
 replace h_a1 := h_a1.ch hst6.ch
 replace hB := hB.trans hst6.fr
 by_cases h7 : r1 = (0 : Int)
 ·replace H := ifp h7 H
  refine GoR.op ((fun w => opB (op_eql rfl rfl w) (decide_eq_true h7)) _) rfl rfl ?_
  refine GoR.op ((op_move rfl) _) rfl rfl ?_
  refine GoR.op ((op_move rfl) _) rfl rfl ?_
  refine GoR.op ((op_len Try.underlying22 rfl) _) rfl rfl ?_
  replace H := H h_a0.bd
  by_cases h8 : (12 : Int) < (a0.length : Int)
  ·replace H := ifp h8 H
   refine GoR.op ((fun w => opB (op_gtr rfl rfl w) (decide_eq_true h8)) _) rfl rfl ?_
   refine GoR.op ((op_pickT rfl rfl rfl) _) rfl rfl ?_
   refine GoR.op ((op_move rfl) _) rfl rfl ?_
   refine GoR.pass rfl rfl ?_
   refine GoR.pass rfl rfl ?_
   refine GoR.pass rfl rfl ?_
   refine GoR.pass rfl rfl ?_
   refine GoR.pass rfl rfl ?_
   refine GoR.pass rfl rfl ?_
   refine GoR.pass rfl rfl ?_
   refine GoR.pass rfl rfl ?_
   refine GoR.op ((op_pickT rfl rfl rfl) _) rfl rfl ?_
   refine GoR.nil ?_
   refine Go1.condT rfl rfl ?_
   refine Go1.seq ?_
   refine Go1.region ?_
   refine GoR.call (op_call body16 rfl (walk_law14_awake hO.lt H)) rfl rfl ?_
   rintro v13 w10 ⟨r9, rfl, hs11, H⟩
   have hst14 := Stp.same hO hs11
   replace hO := hst14.own
   replace h_a0 := h_a0.ch hst14.ch
   replace h_a1 := h_a1.ch hst14.ch
   replace hB := hB.trans hst14.fr
   refine GoR.op ((op_assign rfl) _) rfl rfl ?_
   refine GoR.nil ?_
   refine Go1.ret1 Try.func10 rfl ?_
   exact ⟨r9, rfl, hB.same, H⟩
  ·replace H := ifn h8 H
   refine GoR.op ((fun w => opB (op_gtr rfl rfl w) (decide_eq_false h8)) _) rfl rfl ?_
   refine GoR.op ((op_pickT rfl rfl rfl) _) rfl rfl ?_
   refine GoR.op ((op_move rfl) _) rfl rfl ?_
   refine GoR.op ((op_move rfl) _) rfl rfl ?_
   refine GoR.call (op_call body19 rfl (walk_ref14_Shape hO.lt h_a1 H)) rfl rfl ?_
   rintro v19 w16 ⟨r15, rfl, hs17, H⟩
   have hst20 := Stp.same hO hs17
   replace hO := hst20.own
   replace h_a0 := h_a0.ch hst20.ch
   replace h_a1 := h_a1.ch hst20.ch
   replace hB := hB.trans hst20.fr
   by_cases h21 : r15 = (0 : Int)
   ·replace H := ifp h21 H
    refine GoR.op ((fun w => opB (op_eql rfl rfl w) (decide_eq_true h21)) _) rfl rfl ?_
    refine GoR.op ((op_move rfl) _) rfl rfl ?_
    refine GoR.op ((op_move rfl) _) rfl rfl ?_
    refine GoR.op ((op_len Try.underlying22 rfl) _) rfl rfl ?_
    replace H := H h_a1.bd
    by_cases h22 : (12 : Int) < (a1.length : Int)
    ·replace H := ifp h22 H
     refine GoR.op ((fun w => opB (op_gtr rfl rfl w) (decide_eq_true h22)) _) rfl rfl ?_
     refine GoR.op ((op_pickT rfl rfl rfl) _) rfl rfl ?_
     refine GoR.op ((op_pickF rfl rfl rfl) _) rfl rfl ?_
     refine GoR.nil ?_
     refine Go1.condT rfl rfl ?_
     refine Go1.seq ?_
     refine Go1.region ?_
     refine GoR.call (op_call body16 rfl (walk_law14_awake hO.lt H)) rfl rfl ?_
     rintro v27 w24 ⟨r23, rfl, hs25, H⟩
     have hst28 := Stp.same hO hs25
     replace hO := hst28.own
     replace h_a0 := h_a0.ch hst28.ch
     replace h_a1 := h_a1.ch hst28.ch
     replace hB := hB.trans hst28.fr
     refine GoR.op ((op_assign rfl) _) rfl rfl ?_
     refine GoR.nil ?_
     refine Go1.ret1 Try.func10 rfl ?_
     exact ⟨r23, rfl, hB.same, H⟩
    ·replace H := ifn h22 H
     refine GoR.op ((fun w => opB (op_gtr rfl rfl w) (decide_eq_false h22)) _) rfl rfl ?_
     refine GoR.op ((op_pickT rfl rfl rfl) _) rfl rfl ?_
     refine GoR.op ((op_pickF rfl rfl rfl) _) rfl rfl ?_
     refine GoR.nil ?_
     refine Go1.condF rfl rfl ?_
     refine Go1.skip ?_
     refine Go1.seq ?_
     refine Go1.region ?_
     refine GoR.op ((op_move rfl) _) rfl rfl ?_
     refine GoR.call (op_call body45 rfl (walk_mult_Opposite hO.lt h_a0 H)) rfl rfl ?_
     rintro v33 w30 ⟨r29, p_r29, c_r29, rfl, hs31, h_r29, H⟩
     have hst34 := Stp.same hO hs31
     replace hO := hst34.own
     replace h_a0 := h_a0.ch hst34.ch
     replace h_a1 := h_a1.ch hst34.ch
     replace hB := hB.trans hst34.fr
     refine GoR.op ((op_move rfl) _) rfl rfl ?_
     refine GoR.call (op_call body46 rfl (walk_mult_Adjoin hO.lt h_a0 H)) rfl rfl ?_
     rintro v39 w36 ⟨r35, p_r35, c_r35, rfl, hs37, h_r35, H⟩
     have hst40 := Stp.same hO hs37
     replace hO := hst40.own
     replace h_a0 := h_a0.ch hst40.ch
     replace h_a1 := h_a1.ch hst40.ch
     replace h_r29 := h_r29.ch hst40.ch
     replace hB := hB.trans hst40.fr
     refine GoR.op ((op_move rfl) _) rfl rfl ?_
     refine GoR.op ((op_move rfl) _) rfl rfl ?_
     refine GoR.call (op_call body33 rfl (walk_mult_Direct hO.lt h_a0 h_a1 H)) rfl rfl ?_
     rintro v45 w42 ⟨r41, p_r41, c_r41, rfl, hs43, h_r41, H⟩
     have hst46 := Stp.same hO hs43
     replace hO := hst46.own
     replace h_a0 := h_a0.ch hst46.ch
     replace h_a1 := h_a1.ch hst46.ch
     replace h_r29 := h_r29.ch hst46.ch
     replace h_r35 := h_r35.ch hst46.ch
     replace hB := hB.trans hst46.fr
     refine GoR.op ((op_assign rfl) _) rfl rfl ?_
     refine GoR.op ((op_assign rfl) _) rfl rfl ?_
     refine GoR.op ((op_assign rfl) _) rfl rfl ?_
     refine GoR.nil ?_
     refine Go1.seq ?_
     refine Go1.seq ?_
     refine Go1.region ?_
     refine GoR.op ((op_move rfl) _) rfl rfl ?_
     refine GoR.call (op_call body26 rfl (walk_ref14_Valid hO.lt h_a0 H)) rfl rfl ?_
     rintro v51 w48 ⟨r47, rfl, hs49, H⟩
     have hst52 := Stp.same hO hs49
     replace hO := hst52.own
     replace h_a0 := h_a0.ch hst52.ch
     replace h_a1 := h_a1.ch hst52.ch
     replace h_r29 := h_r29.ch hst52.ch
     replace h_r35 := h_r35.ch hst52.ch
     replace h_r41 := h_r41.ch hst52.ch
     replace hB := hB.trans hst52.fr
     cases r47
     ·replace H := ifn Bool.false_ne_true H
      refine GoR.op ((op_not rfl) _) rfl rfl ?_
      refine GoR.nil ?_
      refine Go1.condT rfl rfl ?_
      refine Go1.seq ?_
      refine Go1.region ?_
      refine GoR.op ((op_move rfl) _) rfl rfl ?_
      refine GoR.op ((op_len Try.underlying22 rfl) _) rfl rfl ?_
      replace H := H h_r29.bd
      by_cases h53 : (r29.length : Int) = (0 : Int)
      ·replace H := ifp h53 H
       refine GoR.op ((fun w => opB (op_eql rfl rfl w) (decide_eq_true h53)) _) rfl rfl ?_
       refine GoR.op ((op_move rfl) _) rfl rfl ?_
       refine GoR.op ((op_move rfl) _) rfl rfl ?_
       refine GoR.op ((op_len Try.underlying22 rfl) _) rfl rfl ?_
       replace H := H h_r35.bd
       by_cases h54 : (r35.length : Int) = (0 : Int)
       ·replace H := ifp h54 H
        refine GoR.op ((fun w => opB (op_eql rfl rfl w) (decide_eq_true h54)) _) rfl rfl ?_
        refine GoR.op ((op_pickT rfl rfl rfl) _) rfl rfl ?_
        refine GoR.op ((op_move rfl) _) rfl rfl ?_
        refine GoR.op ((op_move rfl) _) rfl rfl ?_
        refine GoR.op ((op_len Try.underlying22 rfl) _) rfl rfl ?_
        replace H := H h_r41.bd
        by_cases h55 : (r41.length : Int) = (0 : Int)
        ·replace H := ifp h55 H
         refine GoR.op ((fun w => opB (op_eql rfl rfl w) (decide_eq_true h55)) _) rfl rfl ?_
         refine GoR.op ((op_pickT rfl rfl rfl) _) rfl rfl ?_
         refine GoR.op ((op_move rfl) _) rfl rfl ?_
         refine GoR.call (op_call body16 rfl (walk_law14_awake hO.lt H)) rfl rfl ?_
         rintro v60 w57 ⟨r56, rfl, hs58, H⟩
         have hst61 := Stp.same hO hs58
         replace hO := hst61.own
         replace h_a0 := h_a0.ch hst61.ch
         replace h_a1 := h_a1.ch hst61.ch
         replace h_r29 := h_r29.ch hst61.ch
         replace h_r35 := h_r35.ch hst61.ch
         replace h_r41 := h_r41.ch hst61.ch
         replace hB := hB.trans hst61.fr
         refine GoR.op ((op_pickT rfl rfl rfl) _) rfl rfl ?_
         refine GoR.op ((op_assign rfl) _) rfl rfl ?_
         refine GoR.nil ?_
         refine Go1.ret1 Try.func10 rfl ?_
         exact ⟨r56, rfl, hB.same, H⟩
        ·replace H := ifn h55 H
         refine GoR.op ((fun w => opB (op_eql rfl rfl w) (decide_eq_false h55)) _) rfl rfl ?_
         refine GoR.op ((op_pickT rfl rfl rfl) _) rfl rfl ?_
         refine GoR.op ((op_move rfl) _) rfl rfl ?_
         refine GoR.pass rfl rfl ?_
         refine GoR.op ((op_pickF rfl rfl rfl) _) rfl rfl ?_
         refine GoR.op ((op_assign rfl) _) rfl rfl ?_
         refine GoR.nil ?_
         refine Go1.ret1 Try.func10 rfl ?_
         exact ⟨false, rfl, hB.same, H⟩
       ·replace H := ifn h54 H
        refine GoR.op ((fun w => opB (op_eql rfl rfl w) (decide_eq_false h54)) _) rfl rfl ?_
        refine GoR.op ((op_pickT rfl rfl rfl) _) rfl rfl ?_
        refine GoR.op ((op_move rfl) _) rfl rfl ?_
        refine GoR.pass rfl rfl ?_
        refine GoR.pass rfl rfl ?_
        refine GoR.pass rfl rfl ?_
        refine GoR.op ((op_pickF rfl rfl rfl) _) rfl rfl ?_
        refine GoR.op ((op_move rfl) _) rfl rfl ?_
        refine GoR.pass rfl rfl ?_
        refine GoR.op ((op_pickF rfl rfl rfl) _) rfl rfl ?_
        refine GoR.op ((op_assign rfl) _) rfl rfl ?_
        refine GoR.nil ?_
        refine Go1.ret1 Try.func10 rfl ?_
        exact ⟨false, rfl, hB.same, H⟩
      ·replace H := ifn h53 H
       refine GoR.op ((fun w => opB (op_eql rfl rfl w) (decide_eq_false h53)) _) rfl rfl ?_
       refine GoR.op ((op_move rfl) _) rfl rfl ?_
       refine GoR.pass rfl rfl ?_
       refine GoR.pass rfl rfl ?_
       refine GoR.pass rfl rfl ?_
       refine GoR.op ((op_pickF rfl rfl rfl) _) rfl rfl ?_
       refine GoR.op ((op_move rfl) _) rfl rfl ?_
       refine GoR.pass rfl rfl ?_
       refine GoR.pass rfl rfl ?_
       refine GoR.pass rfl rfl ?_
       refine GoR.op ((op_pickF rfl rfl rfl) _) rfl rfl ?_
       refine GoR.op ((op_move rfl) _) rfl rfl ?_
       refine GoR.pass rfl rfl ?_
       refine GoR.op ((op_pickF rfl rfl rfl) _) rfl rfl ?_
       refine GoR.op ((op_assign rfl) _) rfl rfl ?_
       refine GoR.nil ?_
       refine Go1.ret1 Try.func10 rfl ?_
       exact ⟨false, rfl, hB.same, H⟩
     ·replace H := ifp rfl H
      refine GoR.op ((op_not rfl) _) rfl rfl ?_
      refine GoR.nil ?_
      refine Go1.condF rfl rfl ?_
      refine Go1.skip ?_
      refine Go1.seq ?_
      refine Go1.seq ?_
      refine Go1.region ?_
      refine GoR.op ((op_move rfl) _) rfl rfl ?_
      refine GoR.op ((op_move rfl) _) rfl rfl ?_
      refine GoR.call (op_call body48 rfl (walk_ref14_Opposite hO.lt h_a0 H)) rfl rfl ?_
      rintro v66 w63 ⟨r62, p_r62, c_r62, rfl, hs64, h_r62, H⟩
      have hst67 := Stp.same hO hs64
      replace hO := hst67.own
      replace h_a0 := h_a0.ch hst67.ch
      replace h_a1 := h_a1.ch hst67.ch
      replace h_r29 := h_r29.ch hst67.ch
      replace h_r35 := h_r35.ch hst67.ch
      replace h_r41 := h_r41.ch hst67.ch
      replace hB := hB.trans hst67.fr
      refine GoR.call (op_call body47 rfl (walk_ref03_SameRows hO.lt h_r29 h_r62 H)) rfl rfl ?_
      rintro v72 w69 ⟨r68, rfl, hs70, H⟩
      have hst73 := Stp.same hO hs70
      replace hO := hst73.own
      replace h_a0 := h_a0.ch hst73.ch
      replace h_a1 := h_a1.ch hst73.ch
      replace h_r29 := h_r29.ch hst73.ch
      replace h_r35 := h_r35.ch hst73.ch
      replace h_r41 := h_r41.ch hst73.ch
      replace h_r62 := h_r62.ch hst73.ch
      replace hB := hB.trans hst73.fr
      cases r68
      ·replace H := ifn Bool.false_ne_true H
       refine GoR.op ((op_not rfl) _) rfl rfl ?_
       refine GoR.op ((op_move rfl) _) rfl rfl ?_
       refine GoR.pass rfl rfl ?_
       refine GoR.pass rfl rfl ?_
       refine GoR.pass rfl rfl ?_
       refine GoR.pass rfl rfl ?_
       refine GoR.pass rfl rfl ?_
       refine GoR.op ((op_pickT rfl rfl rfl) _) rfl rfl ?_
       refine GoR.nil ?_
       refine Go1.condT rfl rfl ?_
       refine Go1.seq ?_
       refine Go1.region ?_
       refine GoR.op ((op_assign rfl) _) rfl rfl ?_
       refine GoR.nil ?_
       refine Go1.ret1 Try.func10 rfl ?_
       exact ⟨false, rfl, hB.same, H⟩
      ·replace H := ifp rfl H
       refine GoR.op ((op_not rfl) _) rfl rfl ?_
       refine GoR.op ((op_move rfl) _) rfl rfl ?_
       refine GoR.op ((op_move rfl) _) rfl rfl ?_
       refine GoR.op ((op_move rfl) _) rfl rfl ?_
       refine GoR.call (op_call body49 rfl (walk_ref14_Adjoin hO.lt h_a0 H)) rfl rfl ?_
       rintro v78 w75 ⟨r74, p_r74, c_r74, rfl, hs76, h_r74, H⟩
       have hst79 := Stp.same hO hs76
       replace hO := hst79.own
       replace h_a0 := h_a0.ch hst79.ch
       replace h_a1 := h_a1.ch hst79.ch
       replace h_r29 := h_r29.ch hst79.ch
       replace h_r35 := h_r35.ch hst79.ch
       replace h_r41 := h_r41.ch hst79.ch
       replace h_r62 := h_r62.ch hst79.ch
       replace hB := hB.trans hst79.fr
       refine GoR.call (op_call body47 rfl (walk_ref03_SameRows hO.lt h_r35 h_r74 H)) rfl rfl ?_
       rintro v84 w81 ⟨r80, rfl, hs82, H⟩
       have hst85 := Stp.same hO hs82
       replace hO := hst85.own
       replace h_a0 := h_a0.ch hst85.ch
       replace h_a1 := h_a1.ch hst85.ch
       replace h_r29 := h_r29.ch hst85.ch
       replace h_r35 := h_r35.ch hst85.ch
       replace h_r41 := h_r41.ch hst85.ch
       replace h_r62 := h_r62.ch hst85.ch
       replace h_r74 := h_r74.ch hst85.ch
       replace hB := hB.trans hst85.fr
       cases r80
       ·replace H := ifn Bool.false_ne_true H
        refine GoR.op ((op_not rfl) _) rfl rfl ?_
        refine GoR.op ((op_pickF rfl rfl rfl) _) rfl rfl ?_
        refine GoR.nil ?_
        refine Go1.condT rfl rfl ?_
        refine Go1.seq ?_
        refine Go1.region ?_
        refine GoR.op ((op_assign rfl) _) rfl rfl ?_
        refine GoR.nil ?_
        refine Go1.ret1 Try.func10 rfl ?_
        exact ⟨false, rfl, hB.same, H⟩
       ·replace H := ifp rfl H
        refine GoR.op ((op_not rfl) _) rfl rfl ?_
        refine GoR.op ((op_pickF rfl rfl rfl) _) rfl rfl ?_
        refine GoR.nil ?_
        refine Go1.condF rfl rfl ?_
        refine Go1.skip ?_
        refine Go1.seq ?_
        refine Go1.seq ?_
        refine Go1.region ?_
        refine GoR.op ((op_move rfl) _) rfl rfl ?_
        refine GoR.call (op_call body26 rfl (walk_ref14_Valid hO.lt h_a1 H)) rfl rfl ?_
        rintro v90 w87 ⟨r86, rfl, hs88, H⟩
        have hst91 := Stp.same hO hs88
        replace hO := hst91.own
        replace h_a0 := h_a0.ch hst91.ch
        replace h_a1 := h_a1.ch hst91.ch
        replace h_r29 := h_r29.ch hst91.ch
        replace h_r35 := h_r35.ch hst91.ch
        replace h_r41 := h_r41.ch hst91.ch
        replace h_r62 := h_r62.ch hst91.ch
        replace h_r74 := h_r74.ch hst91.ch
        replace hB := hB.trans hst91.fr
        cases r86
        ·replace H := ifn Bool.false_ne_true H
         refine GoR.op ((op_not rfl) _) rfl rfl ?_
         refine GoR.nil ?_
         refine Go1.condT rfl rfl ?_
         refine Go1.seq ?_
         refine Go1.region ?_
         refine GoR.op ((op_move rfl) _) rfl rfl ?_
         refine GoR.op ((op_len Try.underlying22 rfl) _) rfl rfl ?_
         replace H := H h_r41.bd
         by_cases h92 : (r41.length : Int) = (0 : Int)
         ·replace H := ifp h92 H
          refine GoR.op ((fun w => opB (op_eql rfl rfl w) (decide_eq_true h92)) _) rfl rfl ?_
          refine GoR.op ((op_move rfl) _) rfl rfl ?_
          refine GoR.call (op_call body16 rfl (walk_law14_awake hO.lt H)) rfl rfl ?_
          rintro v97 w94 ⟨r93, rfl, hs95, H⟩
          have hst98 := Stp.same hO hs95
          replace hO := hst98.own
          replace h_a0 := h_a0.ch hst98.ch
          replace h_a1 := h_a1.ch hst98.ch
          replace h_r29 := h_r29.ch hst98.ch
          replace h_r35 := h_r35.ch hst98.ch
          replace h_r41 := h_r41.ch hst98.ch
          replace h_r62 := h_r62.ch hst98.ch
          replace h_r74 := h_r74.ch hst98.ch
          replace hB := hB.trans hst98.fr
          refine GoR.op ((op_pickT rfl rfl rfl) _) rfl rfl ?_
          refine GoR.op ((op_assign rfl) _) rfl rfl ?_
          refine GoR.nil ?_
          refine Go1.ret1 Try.func10 rfl ?_
          exact ⟨r93, rfl, hB.same, H⟩
         ·replace H := ifn h92 H
          refine GoR.op ((fun w => opB (op_eql rfl rfl w) (decide_eq_false h92)) _) rfl rfl ?_
          refine GoR.op ((op_move rfl) _) rfl rfl ?_
          refine GoR.pass rfl rfl ?_
          refine GoR.op ((op_pickF rfl rfl rfl) _) rfl rfl ?_
          refine GoR.op ((op_assign rfl) _) rfl rfl ?_
          refine GoR.nil ?_
          refine Go1.ret1 Try.func10 rfl ?_
          exact ⟨false, rfl, hB.same, H⟩
        ·replace H := ifp rfl H
         refine GoR.op ((op_not rfl) _) rfl rfl ?_
         refine GoR.nil ?_
         refine Go1.condF rfl rfl ?_
         refine Go1.skip ?_
         refine Go1.seq ?_
         refine Go1.region ?_
         refine GoR.op ((op_move rfl) _) rfl rfl ?_
         refine GoR.op ((op_move rfl) _) rfl rfl ?_
         refine GoR.op ((op_move rfl) _) rfl rfl ?_
         refine GoR.call (op_call body50 rfl (walk_ref14_Direct hO.lt h_a0 h_a1 H)) rfl rfl ?_
         rintro v103 w100 ⟨r99, p_r99, c_r99, rfl, hs101, h_r99, H⟩
         have hst104 := Stp.same hO hs101
         replace hO := hst104.own
         replace h_a0 := h_a0.ch hst104.ch
         replace h_a1 := h_a1.ch hst104.ch
         replace h_r29 := h_r29.ch hst104.ch
         replace h_r35 := h_r35.ch hst104.ch
         replace h_r41 := h_r41.ch hst104.ch
         replace h_r62 := h_r62.ch hst104.ch
         replace h_r74 := h_r74.ch hst104.ch
         replace hB := hB.trans hst104.fr
         refine GoR.call (op_call body47 rfl (walk_ref03_SameRows hO.lt h_r41 h_r99 H)) rfl rfl ?_
         rintro v109 w106 ⟨r105, rfl, hs107, H⟩
         have hst110 := Stp.same hO hs107
         replace hO := hst110.own
         replace h_a0 := h_a0.ch hst110.ch
         replace h_a1 := h_a1.ch hst110.ch
         replace h_r29 := h_r29.ch hst110.ch
         replace h_r35 := h_r35.ch hst110.ch
         replace h_r41 := h_r41.ch hst110.ch
         replace h_r62 := h_r62.ch hst110.ch
         replace h_r74 := h_r74.ch hst110.ch
         replace h_r99 := h_r99.ch hst110.ch
         replace hB := hB.trans hst110.fr
         refine GoR.op ((op_move rfl) _) rfl rfl ?_
         cases r105
         ·replace H := ifn Bool.false_ne_true H
          refine GoR.pass rfl rfl ?_
          refine GoR.op ((op_pickF rfl rfl rfl) _) rfl rfl ?_
          refine GoR.op ((op_assign rfl) _) rfl rfl ?_
          refine GoR.nil ?_
          refine Go1.ret1 Try.func10 rfl ?_
          exact ⟨false, rfl, hB.same, H⟩
         ·replace H := ifp rfl H
          refine GoR.call (op_call body16 rfl (walk_law14_awake hO.lt H)) rfl rfl ?_
          rintro v115 w112 ⟨r111, rfl, hs113, H⟩
          have hst116 := Stp.same hO hs113
          replace hO := hst116.own
          replace h_a0 := h_a0.ch hst116.ch
          replace h_a1 := h_a1.ch hst116.ch
          replace h_r29 := h_r29.ch hst116.ch
          replace h_r35 := h_r35.ch hst116.ch
          replace h_r41 := h_r41.ch hst116.ch
          replace h_r62 := h_r62.ch hst116.ch
          replace h_r74 := h_r74.ch hst116.ch
          replace h_r99 := h_r99.ch hst116.ch
          replace hB := hB.trans hst116.fr
          refine GoR.op ((op_pickT rfl rfl rfl) _) rfl rfl ?_
          refine GoR.op ((op_assign rfl) _) rfl rfl ?_
          refine GoR.nil ?_
          refine Go1.ret1 Try.func10 rfl ?_
          exact ⟨r111, rfl, hB.same, H⟩
   ·replace H := ifn h21 H
    refine GoR.op ((fun w => opB (op_eql rfl rfl w) (decide_eq_false h21)) _) rfl rfl ?_
    refine GoR.op ((op_move rfl) _) rfl rfl ?_
    refine GoR.pass rfl rfl ?_
    refine GoR.pass rfl rfl ?_
    refine GoR.pass rfl rfl ?_
    refine GoR.op ((op_pickF rfl rfl rfl) _) rfl rfl ?_
    refine GoR.op ((op_pickF rfl rfl rfl) _) rfl rfl ?_
    refine GoR.nil ?_
    refine Go1.condF rfl rfl ?_
    refine Go1.skip ?_
    refine Go1.seq ?_
    refine Go1.region ?_
    refine GoR.op ((op_move rfl) _) rfl rfl ?_
    refine GoR.call (op_call body45 rfl (walk_mult_Opposite hO.lt h_a0 H)) rfl rfl ?_
    rintro v121 w118 ⟨r117, p_r117, c_r117, rfl, hs119, h_r117, H⟩
    have hst122 := Stp.same hO hs119
    replace hO := hst122.own
    replace h_a0 := h_a0.ch hst122.ch
    replace h_a1 := h_a1.ch hst122.ch
    replace hB := hB.trans hst122.fr
    refine GoR.op ((op_move rfl) _) rfl rfl ?_
    refine GoR.call (op_call body46 rfl (walk_mult_Adjoin hO.lt h_a0 H)) rfl rfl ?_
    rintro v127 w124 ⟨r123, p_r123, c_r123, rfl, hs125, h_r123, H⟩
    have hst128 := Stp.same hO hs125
    replace hO := hst128.own
    replace h_a0 := h_a0.ch hst128.ch
    replace h_a1 := h_a1.ch hst128.ch
    replace h_r117 := h_r117.ch hst128.ch
    replace hB := hB.trans hst128.fr
    refine GoR.op ((op_move rfl) _) rfl rfl ?_
    refine GoR.op ((op_move rfl) _) rfl rfl ?_
    refine GoR.call (op_call body33 rfl (walk_mult_Direct hO.lt h_a0 h_a1 H)) rfl rfl ?_
    rintro v133 w130 ⟨r129, p_r129, c_r129, rfl, hs131, h_r129, H⟩
    have hst134 := Stp.same hO hs131
    replace hO := hst134.own
    replace h_a0 := h_a0.ch hst134.ch
    replace h_a1 := h_a1.ch hst134.ch
    replace h_r117 := h_r117.ch hst134.ch
    replace h_r123 := h_r123.ch hst134.ch
    replace hB := hB.trans hst134.fr
    refine GoR.op ((op_assign rfl) _) rfl rfl ?_
    refine GoR.op ((op_assign rfl) _) rfl rfl ?_
    refine GoR.op ((op_assign rfl) _) rfl rfl ?_
    refine GoR.nil ?_
    refine Go1.seq ?_
    refine Go1.seq ?_
    refine Go1.region ?_
    refine GoR.op ((op_move rfl) _) rfl rfl ?_
    refine GoR.call (op_call body26 rfl (walk_ref14_Valid hO.lt h_a0 H)) rfl rfl ?_
    rintro v139 w136 ⟨r135, rfl, hs137, H⟩
    have hst140 := Stp.same hO hs137
    replace hO := hst140.own
    replace h_a0 := h_a0.ch hst140.ch
    replace h_a1 := h_a1.ch hst140.ch
    replace h_r117 := h_r117.ch hst140.ch
    replace h_r123 := h_r123.ch hst140.ch
    replace h_r129 := h_r129.ch hst140.ch
    replace hB := hB.trans hst140.fr
    cases r135
    ·replace H := ifn Bool.false_ne_true H
     refine GoR.op ((op_not rfl) _) rfl rfl ?_
     refine GoR.nil ?_
     refine Go1.condT rfl rfl ?_
     refine Go1.seq ?_
     refine Go1.region ?_
     refine GoR.op ((op_move rfl) _) rfl rfl ?_
     refine GoR.op ((op_len Try.underlying22 rfl) _) rfl rfl ?_
     replace H := H h_r117.bd
     by_cases h141 : (r117.length : Int) = (0 : Int)
     ·replace H := ifp h141 H
      refine GoR.op ((fun w => opB (op_eql rfl rfl w) (decide_eq_true h141)) _) rfl rfl ?_
      refine GoR.op ((op_move rfl) _) rfl rfl ?_
      refine GoR.op ((op_move rfl) _) rfl rfl ?_
      refine GoR.op ((op_len Try.underlying22 rfl) _) rfl rfl ?_
      replace H := H h_r123.bd
      by_cases h142 : (r123.length : Int) = (0 : Int)
      ·replace H := ifp h142 H
       refine GoR.op ((fun w => opB (op_eql rfl rfl w) (decide_eq_true h142)) _) rfl rfl ?_
       refine GoR.op ((op_pickT rfl rfl rfl) _) rfl rfl ?_
       refine GoR.op ((op_move rfl) _) rfl rfl ?_
       refine GoR.op ((op_move rfl) _) rfl rfl ?_
       refine GoR.op ((op_len Try.underlying22 rfl) _) rfl rfl ?_
       replace H := H h_r129.bd
       by_cases h143 : (r129.length : Int) = (0 : Int)
       ·replace H := ifp h143 H
        refine GoR.op ((fun w => opB (op_eql rfl rfl w) (decide_eq_true h143)) _) rfl rfl ?_
        refine GoR.op ((op_pickT rfl rfl rfl) _) rfl rfl ?_
        refine GoR.op ((op_move rfl) _) rfl rfl ?_
        refine GoR.call (op_call body16 rfl (walk_law14_awake hO.lt H)) rfl rfl ?_
        rintro v148 w145 ⟨r144, rfl, hs146, H⟩
        have hst149 := Stp.same hO hs146
        replace hO := hst149.own
        replace h_a0 := h_a0.ch hst149.ch
        replace h_a1 := h_a1.ch hst149.ch
        replace h_r117 := h_r117.ch hst149.ch
        replace h_r123 := h_r123.ch hst149.ch
        replace h_r129 := h_r129.ch hst149.ch
        replace hB := hB.trans hst149.fr
        refine GoR.op ((op_pickT rfl rfl rfl) _) rfl rfl ?_
        refine GoR.op ((op_assign rfl) _) rfl rfl ?_
        refine GoR.nil ?_
        refine Go1.ret1 Try.func10 rfl ?_
        exact ⟨r144, rfl, hB.same, H⟩
       ·replace H := ifn h143 H
        refine GoR.op ((fun w => opB (op_eql rfl rfl w) (decide_eq_false h143)) _) rfl rfl ?_
        refine GoR.op ((op_pickT rfl rfl rfl) _) rfl rfl ?_
        refine GoR.op ((op_move rfl) _) rfl rfl ?_
        refine GoR.pass rfl rfl ?_
        refine GoR.op ((op_pickF rfl rfl rfl) _) rfl rfl ?_
        refine GoR.op ((op_assign rfl) _) rfl rfl ?_
        refine GoR.nil ?_
        refine Go1.ret1 Try.func10 rfl ?_
        exact ⟨false, rfl, hB.same, H⟩
      ·replace H := ifn h142 H
       refine GoR.op ((fun w => opB (op_eql rfl rfl w) (decide_eq_false h142)) _) rfl rfl ?_
       refine GoR.op ((op_pickT rfl rfl rfl) _) rfl rfl ?_
       refine GoR.op ((op_move rfl) _) rfl rfl ?_
       refine GoR.pass rfl rfl ?_
       refine GoR.pass rfl rfl ?_
       refine GoR.pass rfl rfl ?_
       refine GoR.op ((op_pickF rfl rfl rfl) _) rfl rfl ?_
       refine GoR.op ((op_move rfl) _) rfl rfl ?_
       refine GoR.pass rfl rfl ?_
       refine GoR.op ((op_pickF rfl rfl rfl) _) rfl rfl ?_
       refine GoR.op ((op_assign rfl) _) rfl rfl ?_
       refine GoR.nil ?_
       refine Go1.ret1 Try.func10 rfl ?_
       exact ⟨false, rfl, hB.same, H⟩
     ·replace H := ifn h141 H
      refine GoR.op ((fun w => opB (op_eql rfl rfl w) (decide_eq_false h141)) _) rfl rfl ?_
      refine GoR.op ((op_move rfl) _) rfl rfl ?_
      refine GoR.pass rfl rfl ?_
      refine GoR.pass rfl rfl ?_
      refine GoR.pass rfl rfl ?_
      refine GoR.op ((op_pickF rfl rfl rfl) _) rfl rfl ?_
      refine GoR.op ((op_move rfl) _) rfl rfl ?_
      refine GoR.pass rfl rfl ?_
      refine GoR.pass rfl rfl ?_
      refine GoR.pass rfl rfl ?_
      refine GoR.op ((op_pickF rfl rfl rfl) _) rfl rfl ?_
      refine GoR.op ((op_move rfl) _) rfl rfl ?_
      refine GoR.pass rfl rfl ?_
      refine GoR.op ((op_pickF rfl rfl rfl) _) rfl rfl ?_
      refine GoR.op ((op_assign rfl) _) rfl rfl ?_
      refine GoR.nil ?_
      refine Go1.ret1 Try.func10 rfl ?_
      exact ⟨false, rfl, hB.same, H⟩
    ·replace H := ifp rfl H
     refine GoR.op ((op_not rfl) _) rfl rfl ?_
     refine GoR.nil ?_
     refine Go1.condF rfl rfl ?_
     refine Go1.skip ?_
     refine Go1.seq ?_
     refine Go1.seq ?_
     refine Go1.region ?_
     refine GoR.op ((op_move rfl) _) rfl rfl ?_
     refine GoR.op ((op_move rfl) _) rfl rfl ?_
     refine GoR.call (op_call body48 rfl (walk_ref14_Opposite hO.lt h_a0 H)) rfl rfl ?_
     rintro v154 w151 ⟨r150, p_r150, c_r150, rfl, hs152, h_r150, H⟩
     have hst155 := Stp.same hO hs152
     replace hO := hst155.own
     replace h_a0 := h_a0.ch hst155.ch
     replace h_a1 := h_a1.ch hst155.ch
     replace h_r117 := h_r117.ch hst155.ch
     replace h_r123 := h_r123.ch hst155.ch
     replace h_r129 := h_r129.ch hst155.ch
     replace hB := hB.trans hst155.fr
     refine GoR.call (op_call body47 rfl (walk_ref03_SameRows hO.lt h_r117 h_r150 H)) rfl rfl ?_
     rintro v160 w157 ⟨r156, rfl, hs158, H⟩
     have hst161 := Stp.same hO hs158
     replace hO := hst161.own
     replace h_a0 := h_a0.ch hst161.ch
     replace h_a1 := h_a1.ch hst161.ch
     replace h_r117 := h_r117.ch hst161.ch
     replace h_r123 := h_r123.ch hst161.ch
     replace h_r129 := h_r129.ch hst161.ch
     replace h_r150 := h_r150.ch hst161.ch
     replace hB := hB.trans hst161.fr
     cases r156
     ·replace H := ifn Bool.false_ne_true H
      refine GoR.op ((op_not rfl) _) rfl rfl ?_
      refine GoR.op ((op_move rfl) _) rfl rfl ?_
      refine GoR.pass rfl rfl ?_
      refine GoR.pass rfl rfl ?_
      refine GoR.pass rfl rfl ?_
      refine GoR.pass rfl rfl ?_
      refine GoR.pass rfl rfl ?_
      refine GoR.op ((op_pickT rfl rfl rfl) _) rfl rfl ?_
      refine GoR.nil ?_
      refine Go1.condT rfl rfl ?_
      refine Go1.seq ?_
      refine Go1.region ?_
      refine GoR.op ((op_assign rfl) _) rfl rfl ?_
      refine GoR.nil ?_
      refine Go1.ret1 Try.func10 rfl ?_
      exact ⟨false, rfl, hB.same, H⟩
     ·replace H := ifp rfl H
      refine GoR.op ((op_not rfl) _) rfl rfl ?_
      refine GoR.op ((op_move rfl) _) rfl rfl ?_
      refine GoR.op ((op_move rfl) _) rfl rfl ?_
      refine GoR.op ((op_move rfl) _) rfl rfl ?_
      refine GoR.call (op_call body49 rfl (walk_ref14_Adjoin hO.lt h_a0 H)) rfl rfl ?_
      rintro v166 w163 ⟨r162, p_r162, c_r162, rfl, hs164, h_r162, H⟩
      have hst167 := Stp.same hO hs164
      replace hO := hst167.own
      replace h_a0 := h_a0.ch hst167.ch
      replace h_a1 := h_a1.ch hst167.ch
      replace h_r117 := h_r117.ch hst167.ch
      replace h_r123 := h_r123.ch hst167.ch
      replace h_r129 := h_r129.ch hst167.ch
      replace h_r150 := h_r150.ch hst167.ch
      replace hB := hB.trans hst167.fr
      refine GoR.call (op_call body47 rfl (walk_ref03_SameRows hO.lt h_r123 h_r162 H)) rfl rfl ?_
      rintro v172 w169 ⟨r168, rfl, hs170, H⟩
      have hst173 := Stp.same hO hs170
      replace hO := hst173.own
      replace h_a0 := h_a0.ch hst173.ch
      replace h_a1 := h_a1.ch hst173.ch
      replace h_r117 := h_r117.ch hst173.ch
      replace h_r123 := h_r123.ch hst173.ch
      replace h_r129 := h_r129.ch hst173.ch
      replace h_r150 := h_r150.ch hst173.ch
      replace h_r162 := h_r162.ch hst173.ch
      replace hB := hB.trans hst173.fr
      cases r168
      ·replace H := ifn Bool.false_ne_true H
       refine GoR.op ((op_not rfl) _) rfl rfl ?_
       refine GoR.op ((op_pickF rfl rfl rfl) _) rfl rfl ?_
       refine GoR.nil ?_
       refine Go1.condT rfl rfl ?_
       refine Go1.seq ?_
       refine Go1.region ?_
       refine GoR.op ((op_assign rfl) _) rfl rfl ?_
       refine GoR.nil ?_
       refine Go1.ret1 Try.func10 rfl ?_
       exact ⟨false, rfl, hB.same, H⟩
      ·replace H := ifp rfl H
       refine GoR.op ((op_not rfl) _) rfl rfl ?_
       refine GoR.op ((op_pickF rfl rfl rfl) _) rfl rfl ?_
       refine GoR.nil ?_
       refine Go1.condF rfl rfl ?_
       refine Go1.skip ?_
       refine Go1.seq ?_
       refine Go1.seq ?_
       refine Go1.region ?_
       refine GoR.op ((op_move rfl) _) rfl rfl ?_
       refine GoR.call (op_call body26 rfl (walk_ref14_Valid hO.lt h_a1 H)) rfl rfl ?_
       rintro v178 w175 ⟨r174, rfl, hs176, H⟩
       have hst179 := Stp.same hO hs176
       replace hO := hst179.own
       replace h_a0 := h_a0.ch hst179.ch
       replace h_a1 := h_a1.ch hst179.ch
       replace h_r117 := h_r117.ch hst179.ch
       replace h_r123 := h_r123.ch hst179.ch
       replace h_r129 := h_r129.ch hst179.ch
       replace h_r150 := h_r150.ch hst179.ch
       replace h_r162 := h_r162.ch hst179.ch
       replace hB := hB.trans hst179.fr
       cases r174
       ·replace H := ifn Bool.false_ne_true H
        refine GoR.op ((op_not rfl) _) rfl rfl ?_
        refine GoR.nil ?_
        refine Go1.condT rfl rfl ?_
        refine Go1.seq ?_
        refine Go1.region ?_
        refine GoR.op ((op_move rfl) _) rfl rfl ?_
        refine GoR.op ((op_len Try.underlying22 rfl) _) rfl rfl ?_
        replace H := H h_r129.bd
        by_cases h180 : (r129.length : Int) = (0 : Int)
        ·replace H := ifp h180 H
         refine GoR.op ((fun w => opB (op_eql rfl rfl w) (decide_eq_true h180)) _) rfl rfl ?_
         refine GoR.op ((op_move rfl) _) rfl rfl ?_
         refine GoR.call (op_call body16 rfl (walk_law14_awake hO.lt H)) rfl rfl ?_
         rintro v185 w182 ⟨r181, rfl, hs183, H⟩
         have hst186 := Stp.same hO hs183
         replace hO := hst186.own
         replace h_a0 := h_a0.ch hst186.ch
         replace h_a1 := h_a1.ch hst186.ch
         replace h_r117 := h_r117.ch hst186.ch
         replace h_r123 := h_r123.ch hst186.ch
         replace h_r129 := h_r129.ch hst186.ch
         replace h_r150 := h_r150.ch hst186.ch
         replace h_r162 := h_r162.ch hst186.ch
         replace hB := hB.trans hst186.fr
         refine GoR.op ((op_pickT rfl rfl rfl) _) rfl rfl ?_
         refine GoR.op ((op_assign rfl) _) rfl rfl ?_
         refine GoR.nil ?_
         refine Go1.ret1 Try.func10 rfl ?_
         exact ⟨r181, rfl, hB.same, H⟩
        ·replace H := ifn h180 H
         refine GoR.op ((fun w => opB (op_eql rfl rfl w) (decide_eq_false h180)) _) rfl rfl ?_
         refine GoR.op ((op_move rfl) _) rfl rfl ?_
         refine GoR.pass rfl rfl ?_
         refine GoR.op ((op_pickF rfl rfl rfl) _) rfl rfl ?_
         refine GoR.op ((op_assign rfl) _) rfl rfl ?_
         refine GoR.nil ?_
         refine Go1.ret1 Try.func10 rfl ?_
         exact ⟨false, rfl, hB.same, H⟩
       ·replace H := ifp rfl H
        refine GoR.op ((op_not rfl) _) rfl rfl ?_
        refine GoR.nil ?_
        refine Go1.condF rfl rfl ?_
        refine Go1.skip ?_
        refine Go1.seq ?_
        refine Go1.region ?_
        refine GoR.op ((op_move rfl) _) rfl rfl ?_
        refine GoR.op ((op_move rfl) _) rfl rfl ?_
        refine GoR.op ((op_move rfl) _) rfl rfl ?_
        refine GoR.call (op_call body50 rfl (walk_ref14_Direct hO.lt h_a0 h_a1 H)) rfl rfl ?_
        rintro v191 w188 ⟨r187, p_r187, c_r187, rfl, hs189, h_r187, H⟩
        have hst192 := Stp.same hO hs189
        replace hO := hst192.own
        replace h_a0 := h_a0.ch hst192.ch
        replace h_a1 := h_a1.ch hst192.ch
        replace h_r117 := h_r117.ch hst192.ch
        replace h_r123 := h_r123.ch hst192.ch
        replace h_r129 := h_r129.ch hst192.ch
        replace h_r150 := h_r150.ch hst192.ch
        replace h_r162 := h_r162.ch hst192.ch
        replace hB := hB.trans hst192.fr
        refine GoR.call (op_call body47 rfl (walk_ref03_SameRows hO.lt h_r129 h_r187 H)) rfl rfl ?_
        rintro v197 w194 ⟨r193, rfl, hs195, H⟩
        have hst198 := Stp.same hO hs195
        replace hO := hst198.own
        replace h_a0 := h_a0.ch hst198.ch
        replace h_a1 := h_a1.ch hst198.ch
        replace h_r117 := h_r117.ch hst198.ch
        replace h_r123 := h_r123.ch hst198.ch
        replace h_r129 := h_r129.ch hst198.ch
        replace h_r150 := h_r150.ch hst198.ch
        replace h_r162 := h_r162.ch hst198.ch
        replace h_r187 := h_r187.ch hst198.ch
        replace hB := hB.trans hst198.fr
        refine GoR.op ((op_move rfl) _) rfl rfl ?_
        cases r193
        ·replace H := ifn Bool.false_ne_true H
         refine GoR.pass rfl rfl ?_
         refine GoR.op ((op_pickF rfl rfl rfl) _) rfl rfl ?_
         refine GoR.op ((op_assign rfl) _) rfl rfl ?_
         refine GoR.nil ?_
         refine Go1.ret1 Try.func10 rfl ?_
         exact ⟨false, rfl, hB.same, H⟩
        ·replace H := ifp rfl H
         refine GoR.call (op_call body16 rfl (walk_law14_awake hO.lt H)) rfl rfl ?_
         rintro v203 w200 ⟨r199, rfl, hs201, H⟩
         have hst204 := Stp.same hO hs201
         replace hO := hst204.own
         replace h_a0 := h_a0.ch hst204.ch
         replace h_a1 := h_a1.ch hst204.ch
         replace h_r117 := h_r117.ch hst204.ch
         replace h_r123 := h_r123.ch hst204.ch
         replace h_r129 := h_r129.ch hst204.ch
         replace h_r150 := h_r150.ch hst204.ch
         replace h_r162 := h_r162.ch hst204.ch
         replace h_r187 := h_r187.ch hst204.ch
         replace hB := hB.trans hst204.fr
         refine GoR.op ((op_pickT rfl rfl rfl) _) rfl rfl ?_
         refine GoR.op ((op_assign rfl) _) rfl rfl ?_
         refine GoR.nil ?_
         refine Go1.ret1 Try.func10 rfl ?_
         exact ⟨r199, rfl, hB.same, H⟩
 ·replace H := ifn h7 H
  refine GoR.op ((fun w => opB (op_eql rfl rfl w) (decide_eq_false h7)) _) rfl rfl ?_
  refine GoR.op ((op_move rfl) _) rfl rfl ?_
  refine GoR.pass rfl rfl ?_
  refine GoR.pass rfl rfl ?_
  refine GoR.pass rfl rfl ?_
  refine GoR.op ((op_pickF rfl rfl rfl) _) rfl rfl ?_
  refine GoR.op ((op_move rfl) _) rfl rfl ?_
  refine GoR.op ((op_move rfl) _) rfl rfl ?_
  refine GoR.call (op_call body19 rfl (walk_ref14_Shape hO.lt h_a1 H)) rfl rfl ?_
  rintro v209 w206 ⟨r205, rfl, hs207, H⟩
  have hst210 := Stp.same hO hs207
  replace hO := hst210.own
  replace h_a0 := h_a0.ch hst210.ch
  replace h_a1 := h_a1.ch hst210.ch
  replace hB := hB.trans hst210.fr
  by_cases h211 : r205 = (0 : Int)
  ·replace H := ifp h211 H
   refine GoR.op ((fun w => opB (op_eql rfl rfl w) (decide_eq_true h211)) _) rfl rfl ?_
   refine GoR.op ((op_move rfl) _) rfl rfl ?_
   refine GoR.op ((op_move rfl) _) rfl rfl ?_
   refine GoR.op ((op_len Try.underlying22 rfl) _) rfl rfl ?_
   replace H := H h_a1.bd
   by_cases h212 : (12 : Int) < (a1.length : Int)
   ·replace H := ifp h212 H
    refine GoR.op ((fun w => opB (op_gtr rfl rfl w) (decide_eq_true h212)) _) rfl rfl ?_
    refine GoR.op ((op_pickT rfl rfl rfl) _) rfl rfl ?_
    refine GoR.op ((op_pickF rfl rfl rfl) _) rfl rfl ?_
    refine GoR.nil ?_
    refine Go1.condT rfl rfl ?_
    refine Go1.seq ?_
    refine Go1.region ?_
    refine GoR.call (op_call body16 rfl (walk_law14_awake hO.lt H)) rfl rfl ?_
    rintro v217 w214 ⟨r213, rfl, hs215, H⟩
    have hst218 := Stp.same hO hs215
    replace hO := hst218.own
    replace h_a0 := h_a0.ch hst218.ch
    replace h_a1 := h_a1.ch hst218.ch
    replace hB := hB.trans hst218.fr
    refine GoR.op ((op_assign rfl) _) rfl rfl ?_
    refine GoR.nil ?_
    refine Go1.ret1 Try.func10 rfl ?_
    exact ⟨r213, rfl, hB.same, H⟩
   ·replace H := ifn h212 H
    refine GoR.op ((fun w => opB (op_gtr rfl rfl w) (decide_eq_false h212)) _) rfl rfl ?_
    refine GoR.op ((op_pickT rfl rfl rfl) _) rfl rfl ?_
    refine GoR.op ((op_pickF rfl rfl rfl) _) rfl rfl ?_
    refine GoR.nil ?_
    refine Go1.condF rfl rfl ?_
    refine Go1.skip ?_
    refine Go1.seq ?_
    refine Go1.region ?_
    refine GoR.op ((op_move rfl) _) rfl rfl ?_
    refine GoR.call (op_call body45 rfl (walk_mult_Opposite hO.lt h_a0 H)) rfl rfl ?_
    rintro v223 w220 ⟨r219, p_r219, c_r219, rfl, hs221, h_r219, H⟩
    have hst224 := Stp.same hO hs221
    replace hO := hst224.own
    replace h_a0 := h_a0.ch hst224.ch
    replace h_a1 := h_a1.ch hst224.ch
    replace hB := hB.trans hst224.fr
    refine GoR.op ((op_move rfl) _) rfl rfl ?_
    refine GoR.call (op_call body46 rfl (walk_mult_Adjoin hO.lt h_a0 H)) rfl rfl ?_
    rintro v229 w226 ⟨r225, p_r225, c_r225, rfl, hs227, h_r225, H⟩
    have hst230 := Stp.same hO hs227
    replace hO := hst230.own
    replace h_a0 := h_a0.ch hst230.ch
    replace h_a1 := h_a1.ch hst230.ch
    replace h_r219 := h_r219.ch hst230.ch
    replace hB := hB.trans hst230.fr
    refine GoR.op ((op_move rfl) _) rfl rfl ?_
    refine GoR.op ((op_move rfl) _) rfl rfl ?_
    refine GoR.call (op_call body33 rfl (walk_mult_Direct hO.lt h_a0 h_a1 H)) rfl rfl ?_
    rintro v235 w232 ⟨r231, p_r231, c_r231, rfl, hs233, h_r231, H⟩
    have hst236 := Stp.same hO hs233
    replace hO := hst236.own
    replace h_a0 := h_a0.ch hst236.ch
    replace h_a1 := h_a1.ch hst236.ch
    replace h_r219 := h_r219.ch hst236.ch
    replace h_r225 := h_r225.ch hst236.ch
    replace hB := hB.trans hst236.fr
    refine GoR.op ((op_assign rfl) _) rfl rfl ?_
    refine GoR.op ((op_assign rfl) _) rfl rfl ?_
    refine GoR.op ((op_assign rfl) _) rfl rfl ?_
    refine GoR.nil ?_
    refine Go1.seq ?_
    refine Go1.seq ?_
    refine Go1.region ?_
    refine GoR.op ((op_move rfl) _) rfl rfl ?_
    refine GoR.call (op_call body26 rfl (walk_ref14_Valid hO.lt h_a0 H)) rfl rfl ?_
    rintro v241 w238 ⟨r237, rfl, hs239, H⟩
    have hst242 := Stp.same hO hs239
    replace hO := hst242.own
    replace h_a0 := h_a0.ch hst242.ch
    replace h_a1 := h_a1.ch hst242.ch
    replace h_r219 := h_r219.ch hst242.ch
    replace h_r225 := h_r225.ch hst242.ch
    replace h_r231 := h_r231.ch hst242.ch
    replace hB := hB.trans hst242.fr
    cases r237
    ·replace H := ifn Bool.false_ne_true H
     refine GoR.op ((op_not rfl) _) rfl rfl ?_
     refine GoR.nil ?_
     refine Go1.condT rfl rfl ?_
     refine Go1.seq ?_
     refine Go1.region ?_
     refine GoR.op ((op_move rfl) _) rfl rfl ?_
     refine GoR.op ((op_len Try.underlying22 rfl) _) rfl rfl ?_
     replace H := H h_r219.bd
     by_cases h243 : (r219.length : Int) = (0 : Int)
     ·replace H := ifp h243 H
      refine GoR.op ((fun w => opB (op_eql rfl rfl w) (decide_eq_true h243)) _) rfl rfl ?_
      refine GoR.op ((op_move rfl) _) rfl rfl ?_
      refine GoR.op ((op_move rfl) _) rfl rfl ?_
      refine GoR.op ((op_len Try.underlying22 rfl) _) rfl rfl ?_
      replace H := H h_r225.bd
      by_cases h244 : (r225.length : Int) = (0 : Int)
      ·replace H := ifp h244 H
       refine GoR.op ((fun w => opB (op_eql rfl rfl w) (decide_eq_true h244)) _) rfl rfl ?_
       refine GoR.op ((op_pickT rfl rfl rfl) _) rfl rfl ?_
       refine GoR.op ((op_move rfl) _) rfl rfl ?_
       refine GoR.op ((op_move rfl) _) rfl rfl ?_
       refine GoR.op ((op_len Try.underlying22 rfl) _) rfl rfl ?_
       replace H := H h_r231.bd
       by_cases h245 : (r231.length : Int) = (0 : Int)
       ·replace H := ifp h245 H
        refine GoR.op ((fun w => opB (op_eql rfl rfl w) (decide_eq_true h245)) _) rfl rfl ?_
        refine GoR.op ((op_pickT rfl rfl rfl) _) rfl rfl ?_
        refine GoR.op ((op_move rfl) _) rfl rfl ?_
        refine GoR.call (op_call body16 rfl (walk_law14_awake hO.lt H)) rfl rfl ?_
        rintro v250 w247 ⟨r246, rfl, hs248, H⟩
        have hst251 := Stp.same hO hs248
        replace hO := hst251.own
        replace h_a0 := h_a0.ch hst251.ch
        replace h_a1 := h_a1.ch hst251.ch
        replace h_r219 := h_r219.ch hst251.ch
        replace h_r225 := h_r225.ch hst251.ch
        replace h_r231 := h_r231.ch hst251.ch
        replace hB := hB.trans hst251.fr
        refine GoR.op ((op_pickT rfl rfl rfl) _) rfl rfl ?_
        refine GoR.op ((op_assign rfl) _) rfl rfl ?_
        refine GoR.nil ?_
        refine Go1.ret1 Try.func10 rfl ?_
        exact ⟨r246, rfl, hB.same, H⟩
       ·replace H := ifn h245 H
        refine GoR.op ((fun w => opB (op_eql rfl rfl w) (decide_eq_false h245)) _) rfl rfl ?_
        refine GoR.op ((op_pickT rfl rfl rfl) _) rfl rfl ?_
        refine GoR.op ((op_move rfl) _) rfl rfl ?_
        refine GoR.pass rfl rfl ?_
        refine GoR.op ((op_pickF rfl rfl rfl) _) rfl rfl ?_
        refine GoR.op ((op_assign rfl) _) rfl rfl ?_
        refine GoR.nil ?_
        refine Go1.ret1 Try.func10 rfl ?_
        exact ⟨false, rfl, hB.same, H⟩
      ·replace H := ifn h244 H
       refine GoR.op ((fun w => opB (op_eql rfl rfl w) (decide_eq_false h244)) _) rfl rfl ?_
       refine GoR.op ((op_pickT rfl rfl rfl) _) rfl rfl ?_
       refine GoR.op ((op_move rfl) _) rfl rfl ?_
       refine GoR.pass rfl rfl ?_
       refine GoR.pass rfl rfl ?_
       refine GoR.pass rfl rfl ?_
       refine GoR.op ((op_pickF rfl rfl rfl) _) rfl rfl ?_
       refine GoR.op ((op_move rfl) _) rfl rfl ?_
       refine GoR.pass rfl rfl ?_
       refine GoR.op ((op_pickF rfl rfl rfl) _) rfl rfl ?_
       refine GoR.op ((op_assign rfl) _) rfl rfl ?_
       refine GoR.nil ?_
       refine Go1.ret1 Try.func10 rfl ?_
       exact ⟨false, rfl, hB.same, H⟩
     ·replace H := ifn h243 H
      refine GoR.op ((fun w => opB (op_eql rfl rfl w) (decide_eq_false h243)) _) rfl rfl ?_
      refine GoR.op ((op_move rfl) _) rfl rfl ?_
      refine GoR.pass rfl rfl ?_
      refine GoR.pass rfl rfl ?_
      refine GoR.pass rfl rfl ?_
      refine GoR.op ((op_pickF rfl rfl rfl) _) rfl rfl ?_
      refine GoR.op ((op_move rfl) _) rfl rfl ?_
      refine GoR.pass rfl rfl ?_
      refine GoR.pass rfl rfl ?_
      refine GoR.pass rfl rfl ?_
      refine GoR.op ((op_pickF rfl rfl rfl) _) rfl rfl ?_
      refine GoR.op ((op_move rfl) _) rfl rfl ?_
      refine GoR.pass rfl rfl ?_
      refine GoR.op ((op_pickF rfl rfl rfl) _) rfl rfl ?_
      refine GoR.op ((op_assign rfl) _) rfl rfl ?_
      refine GoR.nil ?_
      refine Go1.ret1 Try.func10 rfl ?_
      exact ⟨false, rfl, hB.same, H⟩
    ·replace H := ifp rfl H
     refine GoR.op ((op_not rfl) _) rfl rfl ?_
     refine GoR.nil ?_
     refine Go1.condF rfl rfl ?_
     refine Go1.skip ?_
     refine Go1.seq ?_
     refine Go1.seq ?_
     refine Go1.region ?_
     refine GoR.op ((op_move rfl) _) rfl rfl ?_
     refine GoR.op ((op_move rfl) _) rfl rfl ?_
     refine GoR.call (op_call body48 rfl (walk_ref14_Opposite hO.lt h_a0 H)) rfl rfl ?_
     rintro v256 w253 ⟨r252, p_r252, c_r252, rfl, hs254, h_r252, H⟩
     have hst257 := Stp.same hO hs254
     replace hO := hst257.own
     replace h_a0 := h_a0.ch hst257.ch
     replace h_a1 := h_a1.ch hst257.ch
     replace h_r219 := h_r219.ch hst257.ch
     replace h_r225 := h_r225.ch hst257.ch
     replace h_r231 := h_r231.ch hst257.ch
     replace hB := hB.trans hst257.fr
     refine GoR.call (op_call body47 rfl (walk_ref03_SameRows hO.lt h_r219 h_r252 H)) rfl rfl ?_
     rintro v262 w259 ⟨r258, rfl, hs260, H⟩
     have hst263 := Stp.same hO hs260
     replace hO := hst263.own
     replace h_a0 := h_a0.ch hst263.ch
     replace h_a1 := h_a1.ch hst263.ch
     replace h_r219 := h_r219.ch hst263.ch
     replace h_r225 := h_r225.ch hst263.ch
     replace h_r231 := h_r231.ch hst263.ch
     replace h_r252 := h_r252.ch hst263.ch
     replace hB := hB.trans hst263.fr
     cases r258
     ·replace H := ifn Bool.false_ne_true H
      refine GoR.op ((op_not rfl) _) rfl rfl ?_
      refine GoR.op ((op_move rfl) _) rfl rfl ?_
      refine GoR.pass rfl rfl ?_
      refine GoR.pass rfl rfl ?_
      refine GoR.pass rfl rfl ?_
      refine GoR.pass rfl rfl ?_
      refine GoR.pass rfl rfl ?_
      refine GoR.op ((op_pickT rfl rfl rfl) _) rfl rfl ?_
      refine GoR.nil ?_
      refine Go1.condT rfl rfl ?_
      refine Go1.seq ?_
      refine Go1.region ?_
      refine GoR.op ((op_assign rfl) _) rfl rfl ?_
      refine GoR.nil ?_
      refine Go1.ret1 Try.func10 rfl ?_
      exact ⟨false, rfl, hB.same, H⟩
     ·replace H := ifp rfl H
      refine GoR.op ((op_not rfl) _) rfl rfl ?_
      refine GoR.op ((op_move rfl) _) rfl rfl ?_
      refine GoR.op ((op_move rfl) _) rfl rfl ?_
      refine GoR.op ((op_move rfl) _) rfl rfl ?_
      refine GoR.call (op_call body49 rfl (walk_ref14_Adjoin hO.lt h_a0 H)) rfl rfl ?_
      rintro v268 w265 ⟨r264, p_r264, c_r264, rfl, hs266, h_r264, H⟩
      have hst269 := Stp.same hO hs266
      replace hO := hst269.own
      replace h_a0 := h_a0.ch hst269.ch
      replace h_a1 := h_a1.ch hst269.ch
      replace h_r219 := h_r219.ch hst269.ch
      replace h_r225 := h_r225.ch hst269.ch
      replace h_r231 := h_r231.ch hst269.ch
      replace h_r252 := h_r252.ch hst269.ch
      replace hB := hB.trans hst269.fr
      refine GoR.call (op_call body47 rfl (walk_ref03_SameRows hO.lt h_r225 h_r264 H)) rfl rfl ?_
      rintro v274 w271 ⟨r270, rfl, hs272, H⟩
      have hst275 := Stp.same hO hs272
      replace hO := hst275.own
      replace h_a0 := h_a0.ch hst275.ch
      replace h_a1 := h_a1.ch hst275.ch
      replace h_r219 := h_r219.ch hst275.ch
      replace h_r225 := h_r225.ch hst275.ch
      replace h_r231 := h_r231.ch hst275.ch
      replace h_r252 := h_r252.ch hst275.ch
      replace h_r264 := h_r264.ch hst275.ch
      replace hB := hB.trans hst275.fr
      cases r270
      ·replace H := ifn Bool.false_ne_true H
       refine GoR.op ((op_not rfl) _) rfl rfl ?_
       refine GoR.op ((op_pickF rfl rfl rfl) _) rfl rfl ?_
       refine GoR.nil ?_
       refine Go1.condT rfl rfl ?_
       refine Go1.seq ?_
       refine Go1.region ?_
       refine GoR.op ((op_assign rfl) _) rfl rfl ?_
       refine GoR.nil ?_
       refine Go1.ret1 Try.func10 rfl ?_
       exact ⟨false, rfl, hB.same, H⟩
      ·replace H := ifp rfl H
       refine GoR.op ((op_not rfl) _) rfl rfl ?_
       refine GoR.op ((op_pickF rfl rfl rfl) _) rfl rfl ?_
       refine GoR.nil ?_
       refine Go1.condF rfl rfl ?_
       refine Go1.skip ?_
       refine Go1.seq ?_
       refine Go1.seq ?_
       refine Go1.region ?_
       refine GoR.op ((op_move rfl) _) rfl rfl ?_
       refine GoR.call (op_call body26 rfl (walk_ref14_Valid hO.lt h_a1 H)) rfl rfl ?_
       rintro v280 w277 ⟨r276, rfl, hs278, H⟩
       have hst281 := Stp.same hO hs278
       replace hO := hst281.own
       replace h_a0 := h_a0.ch hst281.ch
       replace h_a1 := h_a1.ch hst281.ch
       replace h_r219 := h_r219.ch hst281.ch
       replace h_r225 := h_r225.ch hst281.ch
       replace h_r231 := h_r231.ch hst281.ch
       replace h_r252 := h_r252.ch hst281.ch
       replace h_r264 := h_r264.ch hst281.ch
       replace hB := hB.trans hst281.fr
       cases r276
       ·replace H := ifn Bool.false_ne_true H
        refine GoR.op ((op_not rfl) _) rfl rfl ?_
        refine GoR.nil ?_
        refine Go1.condT rfl rfl ?_
        refine Go1.seq ?_
        refine Go1.region ?_
        refine GoR.op ((op_move rfl) _) rfl rfl ?_
        refine GoR.op ((op_len Try.underlying22 rfl) _) rfl rfl ?_
        replace H := H h_r231.bd
        by_cases h282 : (r231.length : Int) = (0 : Int)
        ·replace H := ifp h282 H
         refine GoR.op ((fun w => opB (op_eql rfl rfl w) (decide_eq_true h282)) _) rfl rfl ?_
         refine GoR.op ((op_move rfl) _) rfl rfl ?_
         refine GoR.call (op_call body16 rfl (walk_law14_awake hO.lt H)) rfl rfl ?_
         rintro v287 w284 ⟨r283, rfl, hs285, H⟩
         have hst288 := Stp.same hO hs285
         replace hO := hst288.own
         replace h_a0 := h_a0.ch hst288.ch
         replace h_a1 := h_a1.ch hst288.ch
         replace h_r219 := h_r219.ch hst288.ch
         replace h_r225 := h_r225.ch hst288.ch
         replace h_r231 := h_r231.ch hst288.ch
         replace h_r252 := h_r252.ch hst288.ch
         replace h_r264 := h_r264.ch hst288.ch
         replace hB := hB.trans hst288.fr
         refine GoR.op ((op_pickT rfl rfl rfl) _) rfl rfl ?_
         refine GoR.op ((op_assign rfl) _) rfl rfl ?_
         refine GoR.nil ?_
         refine Go1.ret1 Try.func10 rfl ?_
         exact ⟨r283, rfl, hB.same, H⟩
        ·replace H := ifn h282 H
         refine GoR.op ((fun w => opB (op_eql rfl rfl w) (decide_eq_false h282)) _) rfl rfl ?_
         refine GoR.op ((op_move rfl) _) rfl rfl ?_
         refine GoR.pass rfl rfl ?_
         refine GoR.op ((op_pickF rfl rfl rfl) _) rfl rfl ?_
         refine GoR.op ((op_assign rfl) _) rfl rfl ?_
         refine GoR.nil ?_
         refine Go1.ret1 Try.func10 rfl ?_
         exact ⟨false, rfl, hB.same, H⟩
       ·replace H := ifp rfl H
        refine GoR.op ((op_not rfl) _) rfl rfl ?_
        refine GoR.nil ?_
        refine Go1.condF rfl rfl ?_
        refine Go1.skip ?_
        refine Go1.seq ?_
        refine Go1.region ?_
        refine GoR.op ((op_move rfl) _) rfl rfl ?_
        refine GoR.op ((op_move rfl) _) rfl rfl ?_
        refine GoR.op ((op_move rfl) _) rfl rfl ?_
        refine GoR.call (op_call body50 rfl (walk_ref14_Direct hO.lt h_a0 h_a1 H)) rfl rfl ?_
        rintro v293 w290 ⟨r289, p_r289, c_r289, rfl, hs291, h_r289, H⟩
        have hst294 := Stp.same hO hs291
        replace hO := hst294.own
        replace h_a0 := h_a0.ch hst294.ch
        replace h_a1 := h_a1.ch hst294.ch
        replace h_r219 := h_r219.ch hst294.ch
        replace h_r225 := h_r225.ch hst294.ch
        replace h_r231 := h_r231.ch hst294.ch
        replace h_r252 := h_r252.ch hst294.ch
        replace h_r264 := h_r264.ch hst294.ch
        replace hB := hB.trans hst294.fr
        refine GoR.call (op_call body47 rfl (walk_ref03_SameRows hO.lt h_r231 h_r289 H)) rfl rfl ?_
        rintro v299 w296 ⟨r295, rfl, hs297, H⟩
        have hst300 := Stp.same hO hs297
        replace hO := hst300.own
        replace h_a0 := h_a0.ch hst300.ch
        replace h_a1 := h_a1.ch hst300.ch
        replace h_r219 := h_r219.ch hst300.ch
        replace h_r225 := h_r225.ch hst300.ch
        replace h_r231 := h_r231.ch hst300.ch
        replace h_r252 := h_r252.ch hst300.ch
        replace h_r264 := h_r264.ch hst300.ch
        replace h_r289 := h_r289.ch hst300.ch
        replace hB := hB.trans hst300.fr
        refine GoR.op ((op_move rfl) _) rfl rfl ?_
        cases r295
        ·replace H := ifn Bool.false_ne_true H
         refine GoR.pass rfl rfl ?_
         refine GoR.op ((op_pickF rfl rfl rfl) _) rfl rfl ?_
         refine GoR.op ((op_assign rfl) _) rfl rfl ?_
         refine GoR.nil ?_
         refine Go1.ret1 Try.func10 rfl ?_
         exact ⟨false, rfl, hB.same, H⟩
        ·replace H := ifp rfl H
         refine GoR.call (op_call body16 rfl (walk_law14_awake hO.lt H)) rfl rfl ?_
         rintro v305 w302 ⟨r301, rfl, hs303, H⟩
         have hst306 := Stp.same hO hs303
         replace hO := hst306.own
         replace h_a0 := h_a0.ch hst306.ch
         replace h_a1 := h_a1.ch hst306.ch
         replace h_r219 := h_r219.ch hst306.ch
         replace h_r225 := h_r225.ch hst306.ch
         replace h_r231 := h_r231.ch hst306.ch
         replace h_r252 := h_r252.ch hst306.ch
         replace h_r264 := h_r264.ch hst306.ch
         replace h_r289 := h_r289.ch hst306.ch
         replace hB := hB.trans hst306.fr
         refine GoR.op ((op_pickT rfl rfl rfl) _) rfl rfl ?_
         refine GoR.op ((op_assign rfl) _) rfl rfl ?_
         refine GoR.nil ?_
         refine Go1.ret1 Try.func10 rfl ?_
         exact ⟨r301, rfl, hB.same, H⟩
  ·replace H := ifn h211 H
   refine GoR.op ((fun w => opB (op_eql rfl rfl w) (decide_eq_false h211)) _) rfl rfl ?_
   refine GoR.op ((op_move rfl) _) rfl rfl ?_
   refine GoR.pass rfl rfl ?_
   refine GoR.pass rfl rfl ?_
   refine GoR.pass rfl rfl ?_
   refine GoR.op ((op_pickF rfl rfl rfl) _) rfl rfl ?_
   refine GoR.op ((op_pickF rfl rfl rfl) _) rfl rfl ?_
   refine GoR.nil ?_
   refine Go1.condF rfl rfl ?_
   refine Go1.skip ?_
   refine Go1.seq ?_
   refine Go1.region ?_
   refine GoR.op ((op_move rfl) _) rfl rfl ?_
   refine GoR.call (op_call body45 rfl (walk_mult_Opposite hO.lt h_a0 H)) rfl rfl ?_
   rintro v311 w308 ⟨r307, p_r307, c_r307, rfl, hs309, h_r307, H⟩
   have hst312 := Stp.same hO hs309
   replace hO := hst312.own
   replace h_a0 := h_a0.ch hst312.ch
   replace h_a1 := h_a1.ch hst312.ch
   replace hB := hB.trans hst312.fr
   refine GoR.op ((op_move rfl) _) rfl rfl ?_
   refine GoR.call (op_call body46 rfl (walk_mult_Adjoin hO.lt h_a0 H)) rfl rfl ?_
   rintro v317 w314 ⟨r313, p_r313, c_r313, rfl, hs315, h_r313, H⟩
   have hst318 := Stp.same hO hs315
   replace hO := hst318.own
   replace h_a0 := h_a0.ch hst318.ch
   replace h_a1 := h_a1.ch hst318.ch
   replace h_r307 := h_r307.ch hst318.ch
   replace hB := hB.trans hst318.fr
   refine GoR.op ((op_move rfl) _) rfl rfl ?_
   refine GoR.op ((op_move rfl) _) rfl rfl ?_
   refine GoR.call (op_call body33 rfl (walk_mult_Direct hO.lt h_a0 h_a1 H)) rfl rfl ?_
   rintro v323 w320 ⟨r319, p_r319, c_r319, rfl, hs321, h_r319, H⟩
   have hst324 := Stp.same hO hs321
   replace hO := hst324.own
   replace h_a0 := h_a0.ch hst324.ch
   replace h_a1 := h_a1.ch hst324.ch
   replace h_r307 := h_r307.ch hst324.ch
   replace h_r313 := h_r313.ch hst324.ch
   replace hB := hB.trans hst324.fr
   refine GoR.op ((op_assign rfl) _) rfl rfl ?_
   refine GoR.op ((op_assign rfl) _) rfl rfl ?_
   refine GoR.op ((op_assign rfl) _) rfl rfl ?_
   refine GoR.nil ?_
   refine Go1.seq ?_
   refine Go1.seq ?_
   refine Go1.region ?_
   refine GoR.op ((op_move rfl) _) rfl rfl ?_
   refine GoR.call (op_call body26 rfl (walk_ref14_Valid hO.lt h_a0 H)) rfl rfl ?_
   rintro v329 w326 ⟨r325, rfl, hs327, H⟩
   have hst330 := Stp.same hO hs327
   replace hO := hst330.own
   replace h_a0 := h_a0.ch hst330.ch
   replace h_a1 := h_a1.ch hst330.ch
   replace h_r307 := h_r307.ch hst330.ch
   replace h_r313 := h_r313.ch hst330.ch
   replace h_r319 := h_r319.ch hst330.ch
   replace hB := hB.trans hst330.fr
   cases r325
   ·replace H := ifn Bool.false_ne_true H
    refine GoR.op ((op_not rfl) _) rfl rfl ?_
    refine GoR.nil ?_
    refine Go1.condT rfl rfl ?_
    refine Go1.seq ?_
    refine Go1.region ?_
    refine GoR.op ((op_move rfl) _) rfl rfl ?_
    refine GoR.op ((op_len Try.underlying22 rfl) _) rfl rfl ?_
    replace H := H h_r307.bd
    by_cases h331 : (r307.length : Int) = (0 : Int)
    ·replace H := ifp h331 H
     refine GoR.op ((fun w => opB (op_eql rfl rfl w) (decide_eq_true h331)) _) rfl rfl ?_
     refine GoR.op ((op_move rfl) _) rfl rfl ?_
     refine GoR.op ((op_move rfl) _) rfl rfl ?_
     refine GoR.op ((op_len Try.underlying22 rfl) _) rfl rfl ?_
     replace H := H h_r313.bd
     by_cases h332 : (r313.length : Int) = (0 : Int)
     ·replace H := ifp h332 H
      refine GoR.op ((fun w => opB (op_eql rfl rfl w) (decide_eq_true h332)) _) rfl rfl ?_
      refine GoR.op ((op_pickT rfl rfl rfl) _) rfl rfl ?_
      refine GoR.op ((op_move rfl) _) rfl rfl ?_
      refine GoR.op ((op_move rfl) _) rfl rfl ?_
      refine GoR.op ((op_len Try.underlying22 rfl) _) rfl rfl ?_
      replace H := H h_r319.bd
      by_cases h333 : (r319.length : Int) = (0 : Int)
      ·replace H := ifp h333 H
       refine GoR.op ((fun w => opB (op_eql rfl rfl w) (decide_eq_true h333)) _) rfl rfl ?_
       refine GoR.op ((op_pickT rfl rfl rfl) _) rfl rfl ?_
       refine GoR.op ((op_move rfl) _) rfl rfl ?_
       refine GoR.call (op_call body16 rfl (walk_law14_awake hO.lt H)) rfl rfl ?_
       rintro v338 w335 ⟨r334, rfl, hs336, H⟩
       have hst339 := Stp.same hO hs336
       replace hO := hst339.own
       replace h_a0 := h_a0.ch hst339.ch
       replace h_a1 := h_a1.ch hst339.ch
       replace h_r307 := h_r307.ch hst339.ch
       replace h_r313 := h_r313.ch hst339.ch
       replace h_r319 := h_r319.ch hst339.ch
       replace hB := hB.trans hst339.fr
       refine GoR.op ((op_pickT rfl rfl rfl) _) rfl rfl ?_
       refine GoR.op ((op_assign rfl) _) rfl rfl ?_
       refine GoR.nil ?_
       refine Go1.ret1 Try.func10 rfl ?_
       exact ⟨r334, rfl, hB.same, H⟩
      ·replace H := ifn h333 H
       refine GoR.op ((fun w => opB (op_eql rfl rfl w) (decide_eq_false h333)) _) rfl rfl ?_
       refine GoR.op ((op_pickT rfl rfl rfl) _) rfl rfl ?_
       refine GoR.op ((op_move rfl) _) rfl rfl ?_
       refine GoR.pass rfl rfl ?_
       refine GoR.op ((op_pickF rfl rfl rfl) _) rfl rfl ?_
       refine GoR.op ((op_assign rfl) _) rfl rfl ?_
       refine GoR.nil ?_
       refine Go1.ret1 Try.func10 rfl ?_
       exact ⟨false, rfl, hB.same, H⟩
     ·replace H := ifn h332 H
      refine GoR.op ((fun w => opB (op_eql rfl rfl w) (decide_eq_false h332)) _) rfl rfl ?_
      refine GoR.op ((op_pickT rfl rfl rfl) _) rfl rfl ?_
      refine GoR.op ((op_move rfl) _) rfl rfl ?_
      refine GoR.pass rfl rfl ?_
      refine GoR.pass rfl rfl ?_
      refine GoR.pass rfl rfl ?_
      refine GoR.op ((op_pickF rfl rfl rfl) _) rfl rfl ?_
      refine GoR.op ((op_move rfl) _) rfl rfl ?_
      refine GoR.pass rfl rfl ?_
      refine GoR.op ((op_pickF rfl rfl rfl) _) rfl rfl ?_
      refine GoR.op ((op_assign rfl) _) rfl rfl ?_
      refine GoR.nil ?_
      refine Go1.ret1 Try.func10 rfl ?_
      exact ⟨false, rfl, hB.same, H⟩
    ·replace H := ifn h331 H
     refine GoR.op ((fun w => opB (op_eql rfl rfl w) (decide_eq_false h331)) _) rfl rfl ?_
     refine GoR.op ((op_move rfl) _) rfl rfl ?_
     refine GoR.pass rfl rfl ?_
     refine GoR.pass rfl rfl ?_
     refine GoR.pass rfl rfl ?_
     refine GoR.op ((op_pickF rfl rfl rfl) _) rfl rfl ?_
     refine GoR.op ((op_move rfl) _) rfl rfl ?_
     refine GoR.pass rfl rfl ?_
     refine GoR.pass rfl rfl ?_
     refine GoR.pass rfl rfl ?_
     refine GoR.op ((op_pickF rfl rfl rfl) _) rfl rfl ?_
     refine GoR.op ((op_move rfl) _) rfl rfl ?_
     refine GoR.pass rfl rfl ?_
     refine GoR.op ((op_pickF rfl rfl rfl) _) rfl rfl ?_
     refine GoR.op ((op_assign rfl) _) rfl rfl ?_
     refine GoR.nil ?_
     refine Go1.ret1 Try.func10 rfl ?_
     exact ⟨false, rfl, hB.same, H⟩
   ·replace H := ifp rfl H
    refine GoR.op ((op_not rfl) _) rfl rfl ?_
    refine GoR.nil ?_
    refine Go1.condF rfl rfl ?_
    refine Go1.skip ?_
    refine Go1.seq ?_
    refine Go1.seq ?_
    refine Go1.region ?_
    refine GoR.op ((op_move rfl) _) rfl rfl ?_
    refine GoR.op ((op_move rfl) _) rfl rfl ?_
    refine GoR.call (op_call body48 rfl (walk_ref14_Opposite hO.lt h_a0 H)) rfl rfl ?_
    rintro v344 w341 ⟨r340, p_r340, c_r340, rfl, hs342, h_r340, H⟩
    have hst345 := Stp.same hO hs342
    replace hO := hst345.own
    replace h_a0 := h_a0.ch hst345.ch
    replace h_a1 := h_a1.ch hst345.ch
    replace h_r307 := h_r307.ch hst345.ch
    replace h_r313 := h_r313.ch hst345.ch
    replace h_r319 := h_r319.ch hst345.ch
    replace hB := hB.trans hst345.fr
    refine GoR.call (op_call body47 rfl (walk_ref03_SameRows hO.lt h_r307 h_r340 H)) rfl rfl ?_
    rintro v350 w347 ⟨r346, rfl, hs348, H⟩
    have hst351 := Stp.same hO hs348
    replace hO := hst351.own
    replace h_a0 := h_a0.ch hst351.ch
    replace h_a1 := h_a1.ch hst351.ch
    replace h_r307 := h_r307.ch hst351.ch
    replace h_r313 := h_r313.ch hst351.ch
    replace h_r319 := h_r319.ch hst351.ch
    replace h_r340 := h_r340.ch hst351.ch
    replace hB := hB.trans hst351.fr
    cases r346
    ·replace H := ifn Bool.false_ne_true H
     refine GoR.op ((op_not rfl) _) rfl rfl ?_
     refine GoR.op ((op_move rfl) _) rfl rfl ?_
     refine GoR.pass rfl rfl ?_
     refine GoR.pass rfl rfl ?_
     refine GoR.pass rfl rfl ?_
     refine GoR.pass rfl rfl ?_
     refine GoR.pass rfl rfl ?_
     refine GoR.op ((op_pickT rfl rfl rfl) _) rfl rfl ?_
     refine GoR.nil ?_
     refine Go1.condT rfl rfl ?_
     refine Go1.seq ?_
     refine Go1.region ?_
     refine GoR.op ((op_assign rfl) _) rfl rfl ?_
     refine GoR.nil ?_
     refine Go1.ret1 Try.func10 rfl ?_
     exact ⟨false, rfl, hB.same, H⟩
    ·replace H := ifp rfl H
     refine GoR.op ((op_not rfl) _) rfl rfl ?_
     refine GoR.op ((op_move rfl) _) rfl rfl ?_
     refine GoR.op ((op_move rfl) _) rfl rfl ?_
     refine GoR.op ((op_move rfl) _) rfl rfl ?_
     refine GoR.call (op_call body49 rfl (walk_ref14_Adjoin hO.lt h_a0 H)) rfl rfl ?_
     rintro v356 w353 ⟨r352, p_r352, c_r352, rfl, hs354, h_r352, H⟩
     have hst357 := Stp.same hO hs354
     replace hO := hst357.own
     replace h_a0 := h_a0.ch hst357.ch
     replace h_a1 := h_a1.ch hst357.ch
     replace h_r307 := h_r307.ch hst357.ch
     replace h_r313 := h_r313.ch hst357.ch
     replace h_r319 := h_r319.ch hst357.ch
     replace h_r340 := h_r340.ch hst357.ch
     replace hB := hB.trans hst357.fr
     refine GoR.call (op_call body47 rfl (walk_ref03_SameRows hO.lt h_r313 h_r352 H)) rfl rfl ?_
     rintro v362 w359 ⟨r358, rfl, hs360, H⟩
     have hst363 := Stp.same hO hs360
     replace hO := hst363.own
     replace h_a0 := h_a0.ch hst363.ch
     replace h_a1 := h_a1.ch hst363.ch
     replace h_r307 := h_r307.ch hst363.ch
     replace h_r313 := h_r313.ch hst363.ch
     replace h_r319 := h_r319.ch hst363.ch
     replace h_r340 := h_r340.ch hst363.ch
     replace h_r352 := h_r352.ch hst363.ch
     replace hB := hB.trans hst363.fr
     cases r358
     ·replace H := ifn Bool.false_ne_true H
      refine GoR.op ((op_not rfl) _) rfl rfl ?_
      refine GoR.op ((op_pickF rfl rfl rfl) _) rfl rfl ?_
      refine GoR.nil ?_
      refine Go1.condT rfl rfl ?_
      refine Go1.seq ?_
      refine Go1.region ?_
      refine GoR.op ((op_assign rfl) _) rfl rfl ?_
      refine GoR.nil ?_
      refine Go1.ret1 Try.func10 rfl ?_
      exact ⟨false, rfl, hB.same, H⟩
     ·replace H := ifp rfl H
      refine GoR.op ((op_not rfl) _) rfl rfl ?_
      refine GoR.op ((op_pickF rfl rfl rfl) _) rfl rfl ?_
      refine GoR.nil ?_
      refine Go1.condF rfl rfl ?_
      refine Go1.skip ?_
      refine Go1.seq ?_
      refine Go1.seq ?_
      refine Go1.region ?_
      refine GoR.op ((op_move rfl) _) rfl rfl ?_
      refine GoR.call (op_call body26 rfl (walk_ref14_Valid hO.lt h_a1 H)) rfl rfl ?_
      rintro v368 w365 ⟨r364, rfl, hs366, H⟩
      have hst369 := Stp.same hO hs366
      replace hO := hst369.own
      replace h_a0 := h_a0.ch hst369.ch
      replace h_a1 := h_a1.ch hst369.ch
      replace h_r307 := h_r307.ch hst369.ch
      replace h_r313 := h_r313.ch hst369.ch
      replace h_r319 := h_r319.ch hst369.ch
      replace h_r340 := h_r340.ch hst369.ch
      replace h_r352 := h_r352.ch hst369.ch
      replace hB := hB.trans hst369.fr
      cases r364
      ·replace H := ifn Bool.false_ne_true H
       refine GoR.op ((op_not rfl) _) rfl rfl ?_
       refine GoR.nil ?_
       refine Go1.condT rfl rfl ?_
       refine Go1.seq ?_
       refine Go1.region ?_
       refine GoR.op ((op_move rfl) _) rfl rfl ?_
       refine GoR.op ((op_len Try.underlying22 rfl) _) rfl rfl ?_
       replace H := H h_r319.bd
       by_cases h370 : (r319.length : Int) = (0 : Int)
       ·replace H := ifp h370 H
        refine GoR.op ((fun w => opB (op_eql rfl rfl w) (decide_eq_true h370)) _) rfl rfl ?_
        refine GoR.op ((op_move rfl) _) rfl rfl ?_
        refine GoR.call (op_call body16 rfl (walk_law14_awake hO.lt H)) rfl rfl ?_
        rintro v375 w372 ⟨r371, rfl, hs373, H⟩
        have hst376 := Stp.same hO hs373
        replace hO := hst376.own
        replace h_a0 := h_a0.ch hst376.ch
        replace h_a1 := h_a1.ch hst376.ch
        replace h_r307 := h_r307.ch hst376.ch
        replace h_r313 := h_r313.ch hst376.ch
        replace h_r319 := h_r319.ch hst376.ch
        replace h_r340 := h_r340.ch hst376.ch
        replace h_r352 := h_r352.ch hst376.ch
        replace hB := hB.trans hst376.fr
        refine GoR.op ((op_pickT rfl rfl rfl) _) rfl rfl ?_
        refine GoR.op ((op_assign rfl) _) rfl rfl ?_
        refine GoR.nil ?_
        refine Go1.ret1 Try.func10 rfl ?_
        exact ⟨r371, rfl, hB.same, H⟩
       ·replace H := ifn h370 H
        refine GoR.op ((fun w => opB (op_eql rfl rfl w) (decide_eq_false h370)) _) rfl rfl ?_
        refine GoR.op ((op_move rfl) _) rfl rfl ?_
        refine GoR.pass rfl rfl ?_
        refine GoR.op ((op_pickF rfl rfl rfl) _) rfl rfl ?_
        refine GoR.op ((op_assign rfl) _) rfl rfl ?_
        refine GoR.nil ?_
        refine Go1.ret1 Try.func10 rfl ?_
        exact ⟨false, rfl, hB.same, H⟩
      ·replace H := ifp rfl H
       refine GoR.op ((op_not rfl) _) rfl rfl ?_
       refine GoR.nil ?_
       refine Go1.condF rfl rfl ?_
       refine Go1.skip ?_
       refine Go1.seq ?_
       refine Go1.region ?_
       refine GoR.op ((op_move rfl) _) rfl rfl ?_
       refine GoR.op ((op_move rfl) _) rfl rfl ?_
       refine GoR.op ((op_move rfl) _) rfl rfl ?_
       refine GoR.call (op_call body50 rfl (walk_ref14_Direct hO.lt h_a0 h_a1 H)) rfl rfl ?_
       rintro v381 w378 ⟨r377, p_r377, c_r377, rfl, hs379, h_r377, H⟩
       have hst382 := Stp.same hO hs379
       replace hO := hst382.own
       replace h_a0 := h_a0.ch hst382.ch
       replace h_a1 := h_a1.ch hst382.ch
       replace h_r307 := h_r307.ch hst382.ch
       replace h_r313 := h_r313.ch hst382.ch
       replace h_r319 := h_r319.ch hst382.ch
       replace h_r340 := h_r340.ch hst382.ch
       replace h_r352 := h_r352.ch hst382.ch
       replace hB := hB.trans hst382.fr
       refine GoR.call (op_call body47 rfl (walk_ref03_SameRows hO.lt h_r319 h_r377 H)) rfl rfl ?_
       rintro v387 w384 ⟨r383, rfl, hs385, H⟩
       have hst388 := Stp.same hO hs385
       replace hO := hst388.own
       replace h_a0 := h_a0.ch hst388.ch
       replace h_a1 := h_a1.ch hst388.ch
       replace h_r307 := h_r307.ch hst388.ch
       replace h_r313 := h_r313.ch hst388.ch
       replace h_r319 := h_r319.ch hst388.ch
       replace h_r340 := h_r340.ch hst388.ch
       replace h_r352 := h_r352.ch hst388.ch
       replace h_r377 := h_r377.ch hst388.ch
       replace hB := hB.trans hst388.fr
       refine GoR.op ((op_move rfl) _) rfl rfl ?_
       cases r383
       ·replace H := ifn Bool.false_ne_true H
        refine GoR.pass rfl rfl ?_
        refine GoR.op ((op_pickF rfl rfl rfl) _) rfl rfl ?_
        refine GoR.op ((op_assign rfl) _) rfl rfl ?_
        refine GoR.nil ?_
        refine Go1.ret1 Try.func10 rfl ?_
        exact ⟨false, rfl, hB.same, H⟩
       ·replace H := ifp rfl H
        refine GoR.call (op_call body16 rfl (walk_law14_awake hO.lt H)) rfl rfl ?_
        rintro v393 w390 ⟨r389, rfl, hs391, H⟩
        have hst394 := Stp.same hO hs391
        replace hO := hst394.own
        replace h_a0 := h_a0.ch hst394.ch
        replace h_a1 := h_a1.ch hst394.ch
        replace h_r307 := h_r307.ch hst394.ch
        replace h_r313 := h_r313.ch hst394.ch
        replace h_r319 := h_r319.ch hst394.ch
        replace h_r340 := h_r340.ch hst394.ch
        replace h_r352 := h_r352.ch hst394.ch
        replace h_r377 := h_r377.ch hst394.ch
        replace hB := hB.trans hst394.fr
        refine GoR.op ((op_pickT rfl rfl rfl) _) rfl rfl ?_
        refine GoR.op ((op_assign rfl) _) rfl rfl ?_
        refine GoR.nil ?_
        refine Go1.ret1 Try.func10 rfl ?_
        exact ⟨r389, rfl, hB.same, H⟩
end Sg
