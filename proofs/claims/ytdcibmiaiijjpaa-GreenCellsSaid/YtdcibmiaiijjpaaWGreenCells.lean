/- -/
import Derived.Test.YtdcibmiaiijjpaaVd
import Derived.Test.YtdcibmiaiijjpaaWBox
import Derived.Test.YtdcibmiaiijjpaaWBoxb
import Derived.Test.YtdcibmiaiijjpaaWGreenBoxes
namespace Sg
open Go Go.RowKit Go.Proofs
set_option linter.unusedVariables false
set_option linter.unusedSimpArgs false
set_option maxRecDepth 100000
set_option maxHeartbeats 4000000
theorem body20 : Body Try.prog 20 := ⟨Try.f20, Try.func20, rfl, by kernel_rfl⟩
theorem J3E {A : List Nat} {w0 : World} {p_t : Option Addr} {c_t : Nat} {t : List (List Int)} (hA : ∀ b ∈ A, b < w0.heap.size) (h_t : ISl (Rp.sl (Rp.int .i64)) A w0 p_t c_t t) {K : Bool → Prop} (H : J1T t K) :
    CallsV Try.prog 20 #[.slice p_t t.length c_t] w0 (fun v w' => ∃ (r0 : Bool), v = .bool r0 ∧ Same w0 w' ∧ K r0) := by
 refine cal hA Try.func20 Try.ntmps20 fun hO hB => ?_
 unfold J1T at H
 refine au ?_
 refine zcr (J05 body15 rfl (J2W hO.lt h_t.u H)) fun _ w2 => e1 fun r1 => sc0 hO fun s hO => fun H => ?_
 refine scm H (fun h3 H => ?_) fun h3 H => ?_
 ·refine au ?_
  refine Go1.ret1 Try.func20 rfl ⟨_, er, frs, H⟩
 refine au ?_
 refine Go1.ret1 Try.func20 rfl ⟨_, er, frs, H⟩
theorem body6 : Body Try.prog 6 := ⟨Try.f6, Try.func6, rfl, by kernel_rfl⟩
theorem J3G {A : List Nat} {w0 : World} {p_t : Option Addr} {c_t : Nat} {t : List (List Int)} {most : Int} (hA : ∀ b ∈ A, b < w0.heap.size) (h_t : ISl (Rp.sl (Rp.int .i64)) A w0 p_t c_t t) {K : Bool → Prop} (H : law15_small t most K) :
    CallsV Try.prog 6 #[.slice p_t t.length c_t, .int .i64 most] w0 (fun v w' => ∃ (r0 : Bool), v = .bool r0 ∧ Same w0 w' ∧ K r0) := by
 refine cal hA Try.func6 Try.ntmps6 fun hO hB => ?_
 unfold law15_small at H
 refine sln0 ?_
 refine scm (H h_t.bd) (fun h1 H => ?_) fun h1 H => ?_
 ·refine au ?_
  refine zcr (J05 body20 rfl (J3E hO.lt h_t.u H)) fun _ w3 => e1 fun r2 => sc0 hO fun s hO => fun H => ?_
  refine au ?_
  refine Go1.ret1 Try.func6 rfl ⟨_, er, frs, H⟩
 refine au ?_
 refine Go1.ret1 Try.func6 rfl ⟨_, er, frs, H⟩
theorem body7 : Body Try.prog 7 := ⟨Try.f7, Try.func7, rfl, by kernel_rfl⟩
theorem J4A {A : List Nat} {w0 : World} {p_t : Option Addr} {c_t : Nat} {p_l : Option Addr} {c_l : Nat} {t : List (List Int)} {l : List Int} (hA : ∀ b ∈ A, b < w0.heap.size) (h_t : ISl (Rp.sl (Rp.int .i64)) A w0 p_t c_t t) (h_l : ISl (Rp.int .i64) A w0 p_l c_l l) {K : Bool → Prop} (H : J3R t l K) :
    CallsV Try.prog 7 #[.slice p_t t.length c_t, .slice p_l l.length c_l] w0 (fun v w' => ∃ (r0 : Bool), v = .bool r0 ∧ Same w0 w' ∧ K r0) := by
 refine cal hA Try.func7 Try.ntmps7 fun hO hB => ?_
 unfold J3R at H
 refine sln0 ?_
 refine au ?_
 refine lv [0, 7, 8] hO (H h_l.bd) (fun E k1_2 σ w => Lo A w0 σ w [(9, .int .i64 (k1_2 : Int))] []) ⟨agr, hO, fr⟩ ?_
 refine fun X1 => fun k1_2 => fun H hX1 σ w1 hk => lh hk fun hO hB => ?_
 refine scm H (fun h3 H => ?_) fun h3 H => ?_
 ·refine sxl hO h_l.u H.1 H.2.1 ?_
  refine au ?_
  have h4 := H.1
  have h5 := H.2.1
  refine scm H.2.2 (fun h6 H => ?_) fun h6 H => ?_
  ·refine au ?_
   refine Go1.ret1 Try.func7 rfl ⟨_, er, frs, H⟩
  refine sln0 ?_
  refine scm (H h_t.bd) (fun h7 H => ?_) fun h7 H => ?_
  ·refine au ?_
   refine Go1.ret1 Try.func7 rfl ⟨_, er, frs, H⟩
  refine sinc (natbd h3 h_l.bd) ?_
  refine au ?_
  exact hX1 _ H _ _ agr ⟨agr, hO, fr⟩
 refine au ?_
 refine Go1.ret1 Try.func7 rfl ⟨_, er, frs, H⟩
theorem body44 : Body Try.prog 44 := ⟨Try.f44, Try.func44, rfl, by kernel_rfl⟩
theorem J2y {A : List Nat} {w0 : World} {p_t : Option Addr} {c_t : Nat} {ny : Option Addr} {nA : Nat} {t : List (List Int)} {numbers : List Int} (hA : ∀ b ∈ A, b < w0.heap.size) (h_t : ISl (Rp.sl (Rp.int .i64)) A w0 p_t c_t t) (lW : ISl (Rp.int .i64) A w0 ny nA numbers) {K : Bool → Prop} (H : J0v t numbers K) :
    CallsV Try.prog 44 #[.slice p_t t.length c_t, .slice ny numbers.length nA] w0 (fun v w' => ∃ (r0 : Bool), v = .bool r0 ∧ Same w0 w' ∧ K r0) := by
 refine cal hA Try.func44 Try.ntmps44 fun hO hB => ?_
 unfold J0v at H
 refine sln0 ?_
 refine au ?_
 refine lv [0, 7, 8] hO (H lW.bd) (fun E k1_2 σ w => Lo A w0 σ w [(9, .int .i64 (k1_2 : Int))] []) ⟨agr, hO, fr⟩ ?_
 refine fun X1 => fun k1_2 => fun H hX1 σ w1 hk => lh hk fun hO hB => ?_
 refine scm H (fun h3 H => ?_) fun h3 H => ?_
 ·refine sxl hO lW.u H.1 H.2.1 ?_
  refine au ?_
  have h4 := H.1
  have h5 := H.2.1
  refine scm H.2.2 (fun h6 H => ?_) fun h6 H => ?_
  ·refine au ?_
   refine Go1.ret1 Try.func44 rfl ⟨_, er, frs, H⟩
  refine sln0 ?_
  refine scm (H h_t.bd) (fun h7 H => ?_) fun h7 H => ?_
  ·refine au ?_
   refine Go1.ret1 Try.func44 rfl ⟨_, er, frs, H⟩
  refine sinc (natbd h3 lW.bd) ?_
  refine au ?_
  exact hX1 _ H _ _ agr ⟨agr, hO, fr⟩
 refine au ?_
 refine Go1.ret1 Try.func44 rfl ⟨_, er, frs, H⟩
theorem body19 : Body Try.prog 19 := ⟨Try.f19, Try.func19, rfl, by kernel_rfl⟩
theorem J4E {A : List Nat} {w0 : World} {bn : Option Addr} {bo : Nat} {uA : Option Addr} {uB : Nat} {a0 : List (List Int)} {a1 : List Int} (hA : ∀ b ∈ A, b < w0.heap.size) (ai : ISl (Rp.sl (Rp.int .i64)) A w0 bn bo a0) (kP : ISl (Rp.int .i64) A w0 uA uB a1) {K : List (List Int) → Int → Prop} (H : J38 a0 a1 K) :
    CallsV Try.prog 19 #[.slice bn a0.length bo, .slice uA a1.length uB] w0 (fun v w' => ∃ (r0 : List (List Int)), ∃ (r1 : Int), ∃ (bw : Option Addr), ∃ (bx : Nat), v = .tuple #[.slice bw r0.length bx, .int .i64 r1] ∧ Same w0 w' ∧ ISl (Rp.sl (Rp.int .i64)) A w' bw bx r0 ∧ K r0 r1) := by
 refine cal hA Try.func19 Try.ntmps19 fun hO hB => ?_
 unfold J38 at H
 refine au ?_
 refine zcr (J05 body24 rfl (J18 hO.lt ai.u H)) fun _ w2 => e1 fun r1 => sc0 hO fun s hO => fun H => ?_
 refine scm H (fun h3 H => ?_) fun h3 H => ?_
 ·refine sln0 ?_
  refine scm (H kP.bd) (fun h4 H => ?_) fun h4 H => ?_
  ·refine au ?_
   refine Go1.ret2 Try.func19 rfl ⟨_, _, _, _, er, frs, (ISl.null _ _ _), H⟩
  refine au ?_
  refine zcr (J05 body44 rfl (J2y hO.lt ai.u kP.u H)) fun _ w6 => e1 fun r5 => sc0 hO fun s hO => fun H => ?_
  cases r5
  ·refine au ?_
   refine Go1.ret2 Try.func19 rfl ⟨_, _, _, _, er, frs, (ISl.null _ _ _), (iF H)⟩
  refine sln0 ?_
  refine smk Fl.i ((iT H) ai.bd) hO fun w7 p8 s hO => ?_
  refine sln1 0 hO ?_
  refine au ?_
  refine lv [0, 1, 7, 34] hO ((iT H) ai.bd).2.2 (fun E (k1_11, d_12) σ w => Lo A w0 σ w [(35, .int .i64 (k1_11 : Int))] [t1 Fl.i 3 p8 a0.length a0.length d_12]) ⟨agr, hO, fr⟩ ?_
  refine fun X1 => p1 fun k1_11 d_12 => fun H hX1 σ w10 hk => lh hk fun hO hB => ?_
  dsimp only at H
  revert hO; repeat (rename Owns .. => q; clear q)
  intro hO; repeat (rename Sq .. => q; clear q)
  refine scm H (fun h13 H => ?_) fun h13 H => ?_
  ·refine six1 0 hO H.1 H.2.1 ?_
   refine sst (u := (-1 : Int)) 0 hO H.1 H.2.1 fun w14 s hO => ?_
   refine au ?_
   have h15 := H.1
   have h16 := H.2.1
   replace H := H.2.2
   obtain ⟨h17, H⟩ := H
   refine zo (J06 rfl rfl (wrap_i64 h17)) ?_
   refine au ?_
   exact hX1 _ H _ _ agr ⟨agr, hO, fr⟩
  refine sln0 ?_
  refine au ?_
  refine lv [0, 1, 7, 42, 43] hO H (fun E (k2_19, d_20) σ w => Lo A w0 σ w [(44, .int .i64 (k2_19 : Int))] [t1 Fl.i 3 p8 a0.length a0.length d_20]) ⟨agr, hO, fr⟩ ?_
  refine fun X2 => p1 fun k2_19 d_20 => fun H hX2 σ w18 hk => lh hk fun hO hB => ?_
  dsimp only at H
  revert hO; repeat (rename Owns .. => q; clear q)
  intro hO; repeat (rename Sq .. => q; clear q)
  refine scm H (fun h21 H => ?_) fun h21 H => ?_
  ·refine sxl hO kP.u H.1 H.2.1 ?_
   refine au ?_
   have h22 := H.1
   have h23 := H.2.1
   refine scm H.2.2 (fun h24 H => ?_) fun h24 H => ?_
   ·refine au ?_
    obtain ⟨h25, H⟩ := H
    refine zo (J62 rfl rfl (wrap_i64 h25)) ?_
    refine six kP H.1 H.2.1 ?_
    refine sld hO kP.u H.1 H.2.1 ?_
    refine au ?_
    have h26 := H.1
    have h27 := H.2.1
    refine scm H.2.2 (fun h28 H => ?_) fun h28 H => ?_
    ·refine au ?_
     refine Go1.ret2 Try.func19 rfl ⟨_, _, _, _, er, frs, (ISl.null _ _ _), H⟩
    refine six1 0 hO H.1 H.2.1 ?_
    refine sst (u := (k2_19 : Int)) 0 hO H.1 H.2.1 fun w29 s hO => ?_
    refine sinc (natbd h21 kP.bd) ?_
    refine au ?_
    exact hX2 _ H.2.2 _ _ agr ⟨agr, hO, fr⟩
   refine six1 0 hO H.1 H.2.1 ?_
   refine sst (u := (k2_19 : Int)) 0 hO H.1 H.2.1 fun w30 s hO => ?_
   refine sinc (natbd h21 kP.bd) ?_
   refine au ?_
   exact hX2 _ H.2.2 _ _ agr ⟨agr, hO, fr⟩
  refine sln0 ?_
  obtain ⟨h38, H⟩ := H
  obtain ⟨h39, H⟩ := H
  have zz := t2makeS (m := (a1.length : Int)) (e' := 3) Fl.i Try.underlying22 ti26 hO h38 h39 (by decide)
  obtain ⟨w31, p32, l7, Cj, wS, hz41⟩ := zz
  refine zg (wS rfl rfl) ?_
  refine nst l7 fun s hO => ?_
  refine sln0 ?_
  refine au ?_
  refine lv [0, 1, 7, 11, 68, 69] hO H (fun E (k3_43, d_44) σ w => ∃ sP, Lo A w0 σ w [(70, .int .i64 (k3_43 : Int))] [t2 Fl.i 26 3 p32 a1.length a1.length sP d_44, t1 Fl.i 3 p8 a0.length a0.length d_20]) ⟨_, ⟨agr, hO, fr⟩⟩ ?_
  refine fun X3 => p1 fun k3_43 d_44 => fun H hX3 σ w42 hk => e1 fun sP => lh hk fun hO hB => ?_
  dsimp only at H
  revert hO; repeat (rename Owns .. => q; clear q)
  intro hO; repeat (rename Sq .. => q; clear q)
  refine scm H (fun h46 H => ?_) fun h46 H => ?_
  ·refine sxl hO kP.u H.1 H.2.1 ?_
   refine sln0 ?_
   refine smk Fl.i H.2.2 hO fun w47 p48 s hO => ?_
   have h50 := H.1
   have h51 := H.2.1
   replace H := H.2.2.2.2
   obtain ⟨h52, H⟩ := H
   obtain ⟨h53, H⟩ := H
   refine zo (J01 Try.underlying22 ti26 rfl rfl h52 (ltn (t2neq 1 hO rfl) h53) (t2some 1 hO rfl h52 h53)) ?_
   refine op1 0 hO fun Ck s hO yR => ?_
   refine sfr 1 hO fun s hO => ?_
   refine sfr 1 hO fun s hO => ?_
   have zz := t2put (hf := Fl.i) hO yR.u h52 h53
   obtain ⟨w56, wT, wU⟩ := zz
   refine zg (wU Try.underlying26 rfl ti26 (by exact rfl) (by exact rfl)) ?_
   refine nst wT fun s hO => ?_
   refine sln0 ?_
   refine au ?_
   refine lv [0, 1, 7, 11, 12, 13, 68, 69, 70, 81, 82] hO H (fun E (k4_60, d_61) σ w => Lo A w0 σ w [(83, .int .i64 (k4_60 : Int))] [t2 Fl.i 26 3 p32 a1.length a1.length (hup sP (k3_43 : Int).toNat (p48, a1.length)) d_61, t1 Fl.i 3 p8 a0.length a0.length d_20]) ⟨agr, hO, fr⟩ ?_
   refine fun X4 => p1 fun k4_60 d_61 => fun H hX4 σ w59 hk => lh hk fun hO hB => ?_
   dsimp only at H
   revert hO; repeat (rename Owns .. => q; clear q)
   intro hO; repeat (rename Sq .. => q; clear q)
   refine scm H (fun h62 H => ?_) fun h62 H => ?_
   ·refine sxl hO kP.u H.1 H.2.1 ?_
    refine au ?_
    refine drs 1 [q0, q0, q0, q1, q0, q0, q0, q0, q0, q1, q0, q0, q1, q0, q1, q0, q3] hO fun w63 s hO => ?_
    refine au ?_
    have h64 := H.1
    have h65 := H.2.1
    replace H := H.2.2
    obtain ⟨h66, H⟩ := H
    obtain ⟨h67, H⟩ := H
    refine GoQ.pure rfl (J01 Try.underlying22 ti26 rfl rfl h66 (ltn (t2neq 0 hO rfl) h67) (t2some 0 hO rfl h66 h67)) rfl rfl ?_
    refine GoQ.stable rfl (t2head 0 hO rfl h66 h67 Try.underlying26 rfl rfl) rfl rfl ?_
    refine sxls hO ai.u H.1 H.2.1 fun p68 c69 yS => ?_
    refine sxl hO yS.u H.2.2.1 H.2.2.2.1 ?_
    refine sxl1 1 hO H.2.2.2.2.1 H.2.2.2.2.2.1 ?_
    have h71 := H.1
    have h72 := H.2.1
    have h73 := H.2.2.1
    have h74 := H.2.2.2.1
    have h75 := H.2.2.2.2.1
    have h76 := H.2.2.2.2.2.1
    replace H := H.2.2.2.2.2.2
    obtain ⟨h77, H⟩ := H
    obtain ⟨h78, H⟩ := H
    refine GoQ.pure rfl (J01 Try.underlying26 ti3 rfl rfl h77 h78 (t2isome 0 hO rfl h66 h67 h77 h78)) rfl rfl ?_
    have zz := t2st (r := Rp.int .i64) (hf := Fl.i) rfl 0 hO rfl h66 h67 h77 h78 (v := .int .i64 (ix d_20 (ix (ix a0 (ix a1 (k3_43 : Int))) (ix a1 (k4_60 : Int))))) (u := (ix d_20 (ix (ix a0 (ix a1 (k3_43 : Int))) (ix a1 (k4_60 : Int))))) rfl rfl
    obtain ⟨w79, wV, wW⟩ := zz
    refine GoQ.last rfl (wW Try.underlying3 rfl ti3 (by exact rfl) (by exact rfl)) rfl rfl ?_
    refine nst wV fun s hO => ?_
    refine au ?_
    obtain ⟨h82, H⟩ := H
    obtain ⟨h83, H⟩ := H
    refine zo (J01 Try.underlying22 ti26 rfl rfl h82 (ltn (t2neq 0 hO rfl) h83) (t2some 0 hO rfl h82 h83)) ?_
    refine zs (t2head 0 hO rfl h82 h83 Try.underlying26 rfl rfl) ?_
    refine au ?_
    obtain ⟨h84, H⟩ := H
    obtain ⟨h85, H⟩ := H
    refine zo (J01 Try.underlying26 ti3 rfl rfl h84 h85 (t2isome 0 hO rfl h82 h83 h84 h85)) ?_
    refine zs (t2Int 0 hO rfl h82 h83 h84 h85 Try.underlying3 rfl rfl) ?_
    refine scm H (fun h86 H => ?_) fun h86 H => ?_
    ·refine au ?_
     refine Go1.ret2 Try.func19 rfl ⟨_, _, _, _, er, frs, (ISl.null _ _ _), H⟩
    refine sinc (natbd h62 kP.bd) ?_
    refine au ?_
    exact hX4 _ H _ _ agr ⟨agr, hO, fr⟩
   refine sinc (natbd h46 kP.bd) ?_
   refine au ?_
   exact hX3 _ H _ _ agr ⟨_, ⟨agr, hO, fr⟩⟩
  refine au ?_
  refine sfz2 0 hO fun s hO yT yU => ?_
  refine Go1.ret2 Try.func19 rfl ⟨_, _, _, _, ?_, frs, yT.r, H⟩
  exact (congrArg (fun l => Value.tuple (List.toArray l)) (J1p (congrArg (fun nn => Value.slice p32 nn a1.length) yU) (J1p rfl rfl)))
 refine au ?_
 refine Go1.ret2 Try.func19 rfl ⟨_, _, _, _, er, frs, (ISl.null _ _ _), H⟩
theorem J2r {A : List Nat} {w0 : World} {bn : Option Addr} {bo : Nat} {a0 : List (List Int)} (hA : ∀ b ∈ A, b < w0.heap.size) (ai : ISl (Rp.sl (Rp.int .i64)) A w0 bn bo a0) {K : Bool → Prop} (H : law15_GreenCells a0 K) :
    CallsV Try.prog 5 #[.slice bn a0.length bo] w0 (fun v w' => ∃ (r0 : Bool), v = .bool r0 ∧ Same w0 w' ∧ K r0) := by
 refine cal hA Try.func5 Try.ntmps5 fun hO hB => ?_
 unfold law15_GreenCells at H
 refine au ?_
 refine zcr (J05 body6 rfl (J3G hO.lt ai.u H)) fun _ w2 => e1 fun r1 => sc0 hO fun s hO => fun H => ?_
 cases r1
 ·refine au ?_
  refine zcr (J05 body8 rfl (J2j hO.lt (iF H))) fun _ w4 => e1 fun r3 => sc0 hO fun s hO => fun H => ?_
  refine au ?_
  refine Go1.ret1 Try.func5 rfl ⟨_, er, frs, H⟩
 refine au ?_
 refine zcr (J05 body9 rfl (J0B hO.lt ai.u (iT H))) fun _ w6 => e4 fun r5 mI mJ mK => e4 fun mM mO mP mQ => e3 fun mS kI kK => sc0 hO fun s hO => d1 fun bQ => d4 fun bS bE bT bu H => ?_
 refine sal hO fun w7 B8 s hO => ?_
 refine sba 0 hO fun w10 s hO => ?_
 refine sln0 ?_
 refine au ?_
 refine lv [0, 3, 24] hO (H bu.bd) (fun E k1_12 σ w => (fun Z => Lo A w0 σ w [(25, .int .i64 (k1_12 : Int))] Z ∧ ISl (Rp.int .i64) (bl Z ++ A) w mI mJ r5.R ∧ ISl (Rp.int .i64) (bl Z ++ A) w mK mM r5.L ∧ ISl (Rp.int .i64) (bl Z ++ A) w mO mP r5.J ∧ ISl (Rp.int .i64) (bl Z ++ A) w mQ mS r5.H ∧ ISl (Rp.sl (Rp.bool)) (bl Z ++ A) w kI kK r5.Below) E) ⟨⟨agr, hO, fr⟩, bQ.u, bS.u, bE.u, bT.u, bu.u⟩ ?_
 refine fun X1 => fun k1_12 => fun H hX1 σ w11 hk => d1 fun hL => d4 fun bQ bS bE bT bu => lh hk (fun hO hB => ?_) hL
 revert hO; repeat (rename Owns .. => q; clear q)
 intro hO; repeat (rename Sq .. => q; clear q)
 refine scm H (fun h13 H => ?_) fun h13 H => ?_
 ·refine au ?_
  refine zcr (J05 body14 rfl (J4a hO.lt ai.u H)) fun _ w16 => e4 fun r14 r15 mT mU => e4 fun mV mW mp mq => e2 fun lX lY => sc0 hO fun s hO => d4 fun bF bU bB bz H => ?_
  refine sal hO fun w17 B18 s hO => ?_
  refine sba 0 hO fun w20 s hO => ?_
  refine scm H (fun h21 H => ?_) fun h21 H => ?_
  ·refine sln0 ?_
   refine sln0 ?_
   refine scm ((H bB.bd) bF.bd) (fun h22 H => ?_) fun h22 H => ?_
   ·refine sln0 ?_
    refine sln0 ?_
    refine scm (H bz.bd) (fun h23 H => ?_) fun h23 H => ?_
    ·refine sln0 ?_
     refine scm H (fun h24 H => ?_) fun h24 H => ?_
     ·refine au ?_
      refine Go1.ret1 Try.func5 rfl ⟨_, er, frs, H⟩
     refine sln0 ?_
     refine scm (H bU.bd) (fun h25 H => ?_) fun h25 H => ?_
     ·refine au ?_
      refine Go1.ret1 Try.func5 rfl ⟨_, er, frs, H⟩
     refine sln0 ?_
     refine au ?_
     refine lv [0, 3, 4, 5, 24, 25, 68] hO H (fun E (k2_27, k2_28) σ w => (fun Z => Lo A w0 σ w [(7, .int .i64 k2_27), (69, .int .i64 (k2_28 : Int))] Z ∧ ISl (Rp.int .i64) (bl Z ++ A) w mI mJ r5.R ∧ ISl (Rp.int .i64) (bl Z ++ A) w mK mM r5.L ∧ ISl (Rp.int .i64) (bl Z ++ A) w mO mP r5.J ∧ ISl (Rp.int .i64) (bl Z ++ A) w mQ mS r5.H ∧ ISl (Rp.sl (Rp.bool)) (bl Z ++ A) w kI kK r5.Below ∧ ISl (Rp.int .i64) (bl Z ++ A) w mT mU r14.Rows ∧ ISl (Rp.int .i64) (bl Z ++ A) w mV mW r14.Cols ∧ ISl (Rp.sl (Rp.sl (Rp.int .i64))) (bl Z ++ A) w mp mq r14.Cells ∧ ISl (Rp.sl (Rp.bool)) (bl Z ++ A) w lX lY r14.Groups) E) ⟨⟨agr, hO, fr⟩, bQ.u, bS.u, bE.u, bT.u, bu.u, bF.u, bU.u, bB.u, bz.u⟩ ?_
     refine fun X2 => p1 fun k2_27 k2_28 => fun H hX2 σ w26 hk => d1 fun hL => d1 fun bQ => d1 fun bS => d1 fun bE => d1 fun bT => d4 fun bu bF bU bB bz => lh hk (fun hO hB => ?_) hL
     dsimp only at H
     revert hO; repeat (rename Owns .. => q; clear q)
     intro hO; repeat (rename Sq .. => q; clear q)
     refine scm H (fun h29 H => ?_) fun h29 H => ?_
     ·refine au ?_
      refine drs 0 [q0, q1, q0, q0, q1, q0, q0, q1, q0, q0, q0, q0, q1, q0, q0, q1, q0, q0, q1, q0, q0, q0] hO fun w30 s hO => ?_
      refine sxls hO bB.u H.1 H.2.1 fun p31 c32 nX => ?_
      refine sln0 ?_
      refine sln0 ?_
      have h34 := H.1
      have h35 := H.2.1
      refine scm (H.2.2 nX.bd) (fun h36 H => ?_) fun h36 H => ?_
      ·refine six bz H.1 H.2.1 ?_
       refine slds hO bz.u H.1 H.2.1 fun p37 c38 yV => ?_
       refine sln0 ?_
       refine sln0 ?_
       have h40 := H.1
       have h41 := H.2.1
       refine scm (H.2.2 yV.bd) (fun h42 H => ?_) fun h42 H => ?_
       ·refine sxls hO bB.u H.1 H.2.1 fun p43 c44 mv => ?_
        refine sln0 ?_
        refine au ?_
        have h49 := H.1
        have h50 := H.2.1
        refine lv [0, 3, 4, 5, 8, 24, 25, 68, 69, 98, 99] hO H.2.2 (fun E (k3_47, k3_48) σ w => (fun Z => Lo A w0 σ w [(7, .int .i64 k3_47), (100, .int .i64 (k3_48 : Int))] Z ∧ ISl (Rp.int .i64) (bl Z ++ A) w mI mJ r5.R ∧ ISl (Rp.int .i64) (bl Z ++ A) w mK mM r5.L ∧ ISl (Rp.int .i64) (bl Z ++ A) w mO mP r5.J ∧ ISl (Rp.int .i64) (bl Z ++ A) w mQ mS r5.H ∧ ISl (Rp.sl (Rp.bool)) (bl Z ++ A) w kI kK r5.Below ∧ ISl (Rp.int .i64) (bl Z ++ A) w mT mU r14.Rows ∧ ISl (Rp.int .i64) (bl Z ++ A) w mV mW r14.Cols ∧ ISl (Rp.sl (Rp.sl (Rp.int .i64))) (bl Z ++ A) w mp mq r14.Cells ∧ ISl (Rp.sl (Rp.bool)) (bl Z ++ A) w lX lY r14.Groups ∧ ISl (Rp.sl (Rp.int .i64)) (bl Z ++ A) w p43 c44 (ix r14.Cells (k2_28 : Int))) E) ⟨⟨agr, hO, fr⟩, bQ.u, bS.u, bE.u, bT.u, bu.u, bF.u, bU.u, bB.u, bz.u, mv.u⟩ ?_
        refine fun X3 => p1 fun k3_47 k3_48 => fun H hX3 σ w46 hk => d1 fun hL => d1 fun bQ => d1 fun bS => d1 fun bE => d1 fun bT => d1 fun bu => d4 fun bF bU bB bz mv => lh hk (fun hO hB => ?_) hL
        dsimp only at H
        revert hO; repeat (rename Owns .. => q; clear q)
        intro hO; repeat (rename Sq .. => q; clear q)
        refine scm H (fun h51 H => ?_) fun h51 H => ?_
        ·refine sxls hO mv H.1 H.2.1 fun p52 c53 sQ => ?_
         refine sln0 ?_
         have h55 := H.1
         have h56 := H.2.1
         replace H := (H.2.2 sQ.bd)
         obtain ⟨h57, H⟩ := H
         refine zo (J06 rfl rfl (wrap_i64 h57)) ?_
         refine sln0 ?_
         refine scm H (fun h58 H => ?_) fun h58 H => ?_
         ·refine au ?_
          refine Go1.ret1 Try.func5 rfl ⟨_, er, frs, H⟩
         refine sln0 ?_
         refine six bB H.1 H.2.1 ?_
         refine slds hO bB H.1 H.2.1 fun p59 c60 uC => ?_
         refine six uC H.2.2.1 H.2.2.2.1 ?_
         refine slds hO uC.u H.2.2.1 H.2.2.2.1 fun p62 c63 p9 => ?_
         refine sln0 ?_
         have h65 := H.1
         have h66 := H.2.1
         have h67 := H.2.2.1
         have h68 := H.2.2.2.1
         refine scm (H.2.2.2.2 p9.bd) (fun h69 H => ?_) fun h69 H => ?_
         ·refine au ?_
          refine zcr (J05 body7 rfl (J4A hO.lt ai.u sQ.u H)) fun _ w71 => e1 fun r70 => sc0 hO fun s hO => fun H => ?_
          cases r70
          ·refine au ?_
           refine Go1.ret1 Try.func5 rfl ⟨_, er, frs, (iF H)⟩
          refine au ?_
          refine zcr (J05 body19 rfl (J4E hO.lt ai.u sQ.u (iT H))) fun _ w74 => e4 fun r72 r73 zN zO => sc0 hO fun s hO => d1 fun zP H => ?_
          refine scm H (fun h75 H => ?_) fun h75 H => ?_
          ·refine sxls hO bz.u H.1 H.2.1 fun p76 c77 yW => ?_
           refine au ?_
           have h79 := H.1
           have h80 := H.2.1
           have h81 := H.2.2.1
           have h82 := H.2.2.2.1
           refine sxb hO yW.u H.2.2.1 H.2.2.2.1 H.2.2.2.2 (fun h83 H => ?_) fun h83 H => ?_
           ·refine zo (J4B Try.underlying4 rfl rfl) ?_
            refine sinc (natbd h51 mv.bd) ?_
            refine au ?_
            exact hX3 _ H _ _ agr ⟨⟨agr, hO, fr⟩, bQ.u, bS.u, bE.u, bT.u, bu.u, bF.u, bU.u, bB.u, bz.u, mv.u⟩
           refine zo (J4B Try.underlying4 rfl rfl) ?_
           refine au ?_
           refine Go1.ret1 Try.func5 rfl ⟨_, er, frs, H⟩
          refine sxls hO bz.u H.1 H.2.1 fun p84 c85 yX => ?_
          refine au ?_
          have h87 := H.1
          have h88 := H.2.1
          have h89 := H.2.2.1
          have h90 := H.2.2.2.1
          refine sxb hO yX.u H.2.2.1 H.2.2.2.1 H.2.2.2.2 (fun h91 H => ?_) fun h91 H => ?_
          ·refine zo (J4B Try.underlying4 rfl rfl) ?_
           refine au ?_
           refine Go1.ret1 Try.func5 rfl ⟨_, er, frs, H⟩
          refine zo (J4B Try.underlying4 rfl rfl) ?_
          refine sinc (natbd h51 mv.bd) ?_
          refine au ?_
          exact hX3 _ H _ _ agr ⟨⟨agr, hO, fr⟩, bQ.u, bS.u, bE.u, bT.u, bu.u, bF.u, bU.u, bB.u, bz.u, mv.u⟩
         refine au ?_
         refine Go1.ret1 Try.func5 rfl ⟨_, er, frs, H⟩
        refine sinc (natbd h29 bF.bd) ?_
        refine au ?_
        exact hX2 _ H _ _ agr ⟨⟨agr, hO, fr⟩, bQ.u, bS.u, bE.u, bT.u, bu.u, bF.u, bU.u, bB.u, bz.u⟩
       refine au ?_
       refine Go1.ret1 Try.func5 rfl ⟨_, er, frs, H⟩
      refine au ?_
      refine Go1.ret1 Try.func5 rfl ⟨_, er, frs, H⟩
     refine sln0 ?_
     refine au ?_
     refine sdr [0] hO fun s hO => ?_
     refine lv [0, 3, 4, 7, 24, 25, 150, 151] hO (H bE.bd) (fun E (k4_93, k4_94) σ w => (fun Z => Lo A w0 σ w [(13, .int .i64 (k4_93 : Int)), (152, .int .i64 (k4_94 : Int))] Z ∧ ISl (Rp.int .i64) (bl Z ++ A) w mI mJ r5.R ∧ ISl (Rp.int .i64) (bl Z ++ A) w mK mM r5.L ∧ ISl (Rp.int .i64) (bl Z ++ A) w mO mP r5.J ∧ ISl (Rp.int .i64) (bl Z ++ A) w mQ mS r5.H ∧ ISl (Rp.sl (Rp.bool)) (bl Z ++ A) w kI kK r5.Below) E) ⟨⟨agr, hO, fr⟩, bQ.u, bS.u, bE.u, bT.u, bu.u⟩ ?_
     refine fun X4 => p1 fun k4_93 k4_94 => fun H hX4 σ w92 hk => d1 fun hL => d4 fun bQ bS bE bT bu => lh hk (fun hO hB => ?_) hL
     dsimp only at H
     revert hO; repeat (rename Owns .. => q; clear q)
     intro hO; repeat (rename Sq .. => q; clear q)
     refine scm H (fun h95 H => ?_) fun h95 H => ?_
     ·refine sxl hO bE H.1 H.2.1 ?_
      refine au ?_
      have h96 := H.1
      have h97 := H.2.1
      refine scm H.2.2 (fun h98 H => ?_) fun h98 H => ?_
      ·refine au ?_
       obtain ⟨h99, H⟩ := H
       refine zo (J06 rfl rfl (wrap_i64 h99)) ?_
       refine sinc (natbd h95 bE.bd) ?_
       refine au ?_
       exact hX4 _ H _ _ agr ⟨⟨agr, hO, fr⟩, bQ, bS, bE, bT, bu⟩
      refine sinc (natbd h95 bE.bd) ?_
      refine au ?_
      exact hX4 _ H _ _ agr ⟨⟨agr, hO, fr⟩, bQ, bS, bE, bT, bu⟩
     refine scm H (fun yY H => ?_) fun yY H => ?_
     ·refine sinc (natbd h13 bu.bd) ?_
      refine au ?_
      exact hX1 _ H _ _ agr ⟨⟨agr, hO, fr⟩, bQ, bS, bE, bT, bu⟩
     refine au ?_
     refine Go1.ret1 Try.func5 rfl ⟨_, er, frs, H⟩
    refine au ?_
    refine Go1.ret1 Try.func5 rfl ⟨_, er, frs, H⟩
   refine au ?_
   refine Go1.ret1 Try.func5 rfl ⟨_, er, frs, H⟩
  refine au ?_
  refine Go1.ret1 Try.func5 rfl ⟨_, er, frs, H⟩
 refine sln0 ?_
 refine scm H (fun y3 H => ?_) fun y3 H => ?_
 ·refine au ?_
  refine zcr (J05 body8 rfl (J2j hO.lt H)) fun _ Cl => e1 fun r102 => sc0 hO fun s hO => fun H => ?_
  refine au ?_
  refine Go1.ret1 Try.func5 rfl ⟨_, er, frs, H⟩
 refine au ?_
 refine Go1.ret1 Try.func5 rfl ⟨_, er, frs, H⟩
end Sg
