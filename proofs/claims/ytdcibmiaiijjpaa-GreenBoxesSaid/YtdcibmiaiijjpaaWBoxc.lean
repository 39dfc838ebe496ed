/- -/
import Derived.Test.YtdcibmiaiijjpaaVd
namespace Sg
open Go Go.RowKit Go.Proofs
set_option linter.unusedVariables false
set_option linter.unusedSimpArgs false
set_option maxRecDepth 100000
set_option maxHeartbeats 4000000
theorem body62 : Body Try.prog 62 := ⟨Try.f62, Try.func62, rfl, by kernel_rfl⟩
theorem J4g {A : List Nat} {w0 : World} {p_t : Option Addr} {c_t : Nat} {t : List (List Int)} {x : Int} (hA : ∀ b ∈ A, b < w0.heap.size) (h_t : ISl (Rp.sl (Rp.int .i64)) A w0 p_t c_t t) {K : List Bool → Prop} (H : J1C t x K) :
    CallsV Try.prog 62 #[.slice p_t t.length c_t, .int .i64 x] w0 (fun v w' => ∃ (r0 : List Bool), ∃ (aI : Option Addr), ∃ (aJ : Nat), v = .slice aI r0.length aJ ∧ Same w0 w' ∧ ISl (Rp.bool) A w' aI aJ r0 ∧ K r0) := by
 refine cal hA Try.func62 Try.ntmps62 fun hO hB => ?_
 unfold J1C at H
 refine sln0 ?_
 refine smk Fl.bool (H h_t.bd) hO fun w1 p4 s hO => ?_
 refine six1 0 hO (H h_t.bd).2.2.1 (H h_t.bd).2.2.2.1 ?_
 refine sst (u := true) 0 hO (H h_t.bd).2.2.1 (H h_t.bd).2.2.2.1 fun w6 s hO => ?_
 refine sxls hO h_t.u (H h_t.bd).2.2.2.2.1 (H h_t.bd).2.2.2.2.2.1 fun p7 c8 hi9 => ?_
 refine sln0 ?_
 refine au ?_
 refine lv [5, 17, 18] hO ((H h_t.bd).2.2.2.2.2.2 hi9.bd) (fun E (k1_11, in1_12) σ w => (fun Z => Lo A w0 σ w [(19, .int .i64 (k1_11 : Int))] Z ∧ ISl (Rp.int .i64) (bl Z ++ A) w p7 c8 (ix t x)) [t1 Fl.bool 4 p4 t.length t.length in1_12]) ⟨⟨agr, hO, fr⟩, hi9.u⟩ ?_
 refine fun X1 => p1 fun k1_11 in1_12 => fun H hX1 σ w10 hk => d1 fun hL => fun hi9 => lh hk (fun hO hB => ?_) hL
 dsimp only at H
 revert hO; repeat (rename Owns .. => q; clear q)
 intro hO; repeat (rename Sq .. => q; clear q)
 refine scm H (fun h13 H => ?_) fun h13 H => ?_
 ·refine sxl hO hi9 H.1 H.2.1 ?_
  refine six1 0 hO H.2.2.1 H.2.2.2.1 ?_
  refine sst (u := true) 0 hO H.2.2.1 H.2.2.2.1 fun w14 s hO => ?_
  refine sinc (natbd h13 hi9.bd) ?_
  refine au ?_
  exact hX1 _ H.2.2.2.2 _ _ agr ⟨⟨agr, hO, fr⟩, hi9.u⟩
 refine au ?_
 refine sfz 0 hO fun s hO uA pg => ?_
 refine Go1.ret1 Try.func62 rfl ⟨_, _, _, ?_, frs, uA.r, H⟩
 exact (congrArg (fun nn => Value.slice p4 nn t.length) pg)
theorem body63 : Body Try.prog 63 := ⟨Try.f63, Try.func63, rfl, by kernel_rfl⟩
theorem J3l {A : List Nat} {w0 : World} {p_t : Option Addr} {c_t : Nat} {t : List (List Int)} {x : Int} (hA : ∀ b ∈ A, b < w0.heap.size) (h_t : ISl (Rp.sl (Rp.int .i64)) A w0 p_t c_t t) {K : List Bool → Prop} (H : J1B t x K) :
    CallsV Try.prog 63 #[.slice p_t t.length c_t, .int .i64 x] w0 (fun v w' => ∃ (r0 : List Bool), ∃ (aI : Option Addr), ∃ (aJ : Nat), v = .slice aI r0.length aJ ∧ Same w0 w' ∧ ISl (Rp.bool) A w' aI aJ r0 ∧ K r0) := by
 refine cal hA Try.func63 Try.ntmps63 fun hO hB => ?_
 unfold J1B at H
 refine sln0 ?_
 refine smk Fl.bool (H h_t.bd) hO fun w1 p4 s hO => ?_
 refine six1 0 hO (H h_t.bd).2.2.1 (H h_t.bd).2.2.2.1 ?_
 refine sst (u := true) 0 hO (H h_t.bd).2.2.1 (H h_t.bd).2.2.2.1 fun w6 s hO => ?_
 refine sln0 ?_
 refine au ?_
 refine lv [0, 1, 5, 14] hO (H h_t.bd).2.2.2.2 (fun E (k1_8, in1_9) σ w => Lo A w0 σ w [(15, .int .i64 (k1_8 : Int))] [t1 Fl.bool 4 p4 t.length t.length in1_9]) ⟨agr, hO, fr⟩ ?_
 refine fun X1 => p1 fun k1_8 in1_9 => fun H hX1 σ w7 hk => lh hk fun hO hB => ?_
 dsimp only at H
 revert hO; repeat (rename Owns .. => q; clear q)
 intro hO; repeat (rename Sq .. => q; clear q)
 refine scm H (fun h10 H => ?_) fun h10 H => ?_
 ·refine sxls hO h_t.u H.1 H.2.1 fun p11 c12 BB => ?_
  refine sxl hO BB.u H.2.2.1 H.2.2.2.1 ?_
  refine six1 0 hO H.2.2.2.2.1 H.2.2.2.2.2.1 ?_
  refine sst (u := true) 0 hO H.2.2.2.2.1 H.2.2.2.2.2.1 fun w14 s hO => ?_
  refine sinc (natbd h10 h_t.bd) ?_
  refine au ?_
  exact hX1 _ H.2.2.2.2.2.2 _ _ agr ⟨agr, hO, fr⟩
 refine au ?_
 refine sfz 0 hO fun s hO uA pg => ?_
 refine Go1.ret1 Try.func63 rfl ⟨_, _, _, ?_, frs, uA.r, H⟩
 exact (congrArg (fun nn => Value.slice p4 nn t.length) pg)
theorem body64 : Body Try.prog 64 := ⟨Try.f64, Try.func64, rfl, by kernel_rfl⟩
theorem J4E {A : List Nat} {w0 : World} {p_t : Option Addr} {c_t : Nat} {t : List (List Int)} {x : Int} (hA : ∀ b ∈ A, b < w0.heap.size) (h_t : ISl (Rp.sl (Rp.int .i64)) A w0 p_t c_t t) {K : List Bool → Prop} (H : J2c t x K) :
    CallsV Try.prog 64 #[.slice p_t t.length c_t, .int .i64 x] w0 (fun v w' => ∃ (r0 : List Bool), ∃ (aI : Option Addr), ∃ (aJ : Nat), v = .slice aI r0.length aJ ∧ Same w0 w' ∧ ISl (Rp.bool) A w' aI aJ r0 ∧ K r0) := by
 refine cal hA Try.func64 Try.ntmps64 fun hO hB => ?_
 unfold J2c at H
 refine sln0 ?_
 refine smk Fl.bool (H h_t.bd) hO fun w1 p4 s hO => ?_
 refine au ?_
 refine zcr (J04 body63 rfl (J3l hO.lt h_t.u (H h_t.bd).2.2)) fun _ w7 => e3 fun r6 mS mT => sc0 hO fun s hO => d1 fun bT H => ?_
 refine sln0 ?_
 refine au ?_
 refine lv [0, 5, 15, 16] hO (H bT.bd) (fun E (k1_9, in1_10) σ w => (fun Z => Lo A w0 σ w [(17, .int .i64 (k1_9 : Int))] Z ∧ ISl (Rp.bool) (bl Z ++ A) w mS mT r6) [t1 Fl.bool 4 p4 t.length t.length in1_10]) ⟨⟨agr, hO, fr⟩, bT.u⟩ ?_
 refine fun X1 => p1 fun k1_9 in1_10 => fun H hX1 σ w8 hk => d1 fun hL => fun bT => lh hk (fun hO hB => ?_) hL
 dsimp only at H
 revert hO; repeat (rename Owns .. => q; clear q)
 intro hO; repeat (rename Sq .. => q; clear q)
 refine scm H (fun h11 H => ?_) fun h11 H => ?_
 ·refine au ?_
  have h12 := H.1
  have h13 := H.2.1
  refine sxb hO bT H.1 H.2.1 H.2.2 (fun h14 H => ?_) fun h14 H => ?_
  ·refine six1 0 hO H.1 H.2.1 ?_
   refine sst (u := true) 0 hO H.1 H.2.1 fun w15 s hO => ?_
   refine sxls hO h_t.u H.2.2.1 H.2.2.2.1 fun p16 c17 kg => ?_
   refine sln0 ?_
   refine au ?_
   have h22 := H.1
   have h23 := H.2.1
   have h24 := H.2.2.1
   have h25 := H.2.2.2.1
   refine lv [0, 5, 15, 16, 17, 30, 31] hO (H.2.2.2.2 kg.bd) (fun E (k2_20, in2_21) σ w => (fun Z => Lo A w0 σ w [(32, .int .i64 (k2_20 : Int))] Z ∧ ISl (Rp.bool) (bl Z ++ A) w mS mT r6 ∧ ISl (Rp.int .i64) (bl Z ++ A) w p16 c17 (ix t (k1_9 : Int))) [t1 Fl.bool 4 p4 t.length t.length in2_21]) ⟨⟨agr, hO, fr⟩, bT.u, kg.u⟩ ?_
   refine fun X2 => p1 fun k2_20 in2_21 => fun H hX2 σ w19 hk => d1 fun hL => d1 fun bT kg => lh hk (fun hO hB => ?_) hL
   dsimp only at H
   revert hO; repeat (rename Owns .. => q; clear q)
   intro hO; repeat (rename Sq .. => q; clear q)
   refine scm H (fun h26 H => ?_) fun h26 H => ?_
   ·refine sxl hO kg H.1 H.2.1 ?_
    refine six1 0 hO H.2.2.1 H.2.2.2.1 ?_
    refine sst (u := true) 0 hO H.2.2.1 H.2.2.2.1 fun w27 s hO => ?_
    refine sinc (natbd h26 kg.bd) ?_
    refine au ?_
    exact hX2 _ H.2.2.2.2 _ _ agr ⟨⟨agr, hO, fr⟩, bT.u, kg.u⟩
   refine sinc (natbd h11 bT.bd) ?_
   refine au ?_
   exact hX1 _ H _ _ agr ⟨⟨agr, hO, fr⟩, bT.u⟩
  refine sinc (natbd h11 bT.bd) ?_
  refine au ?_
  exact hX1 _ H _ _ agr ⟨⟨agr, hO, fr⟩, bT.u⟩
 refine au ?_
 refine sfz 0 hO fun s hO BC BD => ?_
 refine Go1.ret1 Try.func64 rfl ⟨_, _, _, ?_, frs, BC.r, H⟩
 exact (congrArg (fun nn => Value.slice p4 nn t.length) BD)
theorem body39 : Body Try.prog 39 := ⟨Try.f39, Try.func39, rfl, by kernel_rfl⟩
theorem J1u {A : List Nat} {w0 : World} {p_t : Option Addr} {c_t : Nat} {t : List (List Int)} {which : Int} (hA : ∀ b ∈ A, b < w0.heap.size) (h_t : ISl (Rp.sl (Rp.int .i64)) A w0 p_t c_t t) {K : List (List Bool) → Prop} (H : J0K t which K) :
    CallsV Try.prog 39 #[.slice p_t t.length c_t, .int .u8 which] w0 (fun v w' => ∃ (r0 : List (List Bool)), ∃ (aI : Option Addr), ∃ (aJ : Nat), v = .slice aI r0.length aJ ∧ Same w0 w' ∧ ISl (Rp.sl (Rp.bool)) A w' aI aJ r0 ∧ K r0) := by
 refine cal hA Try.func39 Try.ntmps39 fun hO hB => ?_
 unfold J0K at H
 refine sln0 ?_
 refine au ?_
 have hst2 := Stp.nil (e := 42) (r := 1) hO
 refine nst hst2 fun s hO => ?_
 have hE3 := elN (Rp.sl (Rp.bool)) hO
 refine lv [0, 1, 8] hO (H h_t.bd) (fun E (k1_5, out1_6) σ w => ∃ n11 p9 c10 vs7, (fun Z => Lo A w0 σ w [(5, .slice p9 n11 c10), (9, .int .i64 (k1_5 : Int))] Z ∧ Els (Rp.sl (Rp.bool)) (bl Z ++ A) w vs7 out1_6) [.row 42 1 p9 n11 c10 vs7]) ⟨_, _, _, _, ⟨agr, hO, fr⟩, hE3.u⟩ ?_
 refine fun X1 => p1 fun k1_5 out1_6 => fun H hX1 σ w4 hk => e4 fun n11 p9 c10 vs7 => d1 fun hL => fun hE8 => lh hk (fun hO hB => ?_) hL
 dsimp only at H
 revert hO; repeat (rename Owns .. => q; clear q)
 intro hO; repeat (rename Sq .. => q; clear q)
 refine scm H (fun h12 H => ?_) fun h12 H => ?_
 ·refine scm H (fun h13 H => ?_) fun h13 H => ?_
  ·refine au ?_
   refine zcr (J04 body62 rfl (J4g hO.lt h_t.u H)) fun _ w15 => e3 fun r14 u5 u6 => sc0 hO fun s hO => d1 fun yQ H => ?_
   have zz := obu Try.underlying27 ti42 hO (yQ) rfl
   obtain ⟨w16, p17, yR, BE, FG, yS⟩ := zz
   refine zg (yS rfl) ?_
   refine nst yR fun s hO => ?_
   refine sfzR 0 hO BE fun s hO ni BG => ?_
   obtain ⟨h25, H⟩ := H
   have zz := oapp Try.underlying27 ti42 rfl 0 hO rfl hE8.u ni BG h25 (by decide)
   obtain ⟨w26, p27, c28, FH, yT, pU, qj⟩ := zz
   dsimp only [sS, sZ] at pU
   refine zg (qj (by exact rfl) (by exact rfl)) ?_
   refine nst yT fun s hO => ?_
   refine sinc (natbd h12 h_t.bd) ?_
   refine au ?_
   exact hX1 _ H _ _ agr ⟨_, _, _, _, ⟨agr, hO, fr⟩, pU⟩
  refine scm H (fun h34 H => ?_) fun h34 H => ?_
  ·refine au ?_
   refine zcr (J04 body63 rfl (J3l hO.lt h_t.u H)) fun _ w36 => e3 fun r35 xp xq => sc0 hO fun s hO => d1 fun qc H => ?_
   have zz := obu Try.underlying27 ti42 hO (qc) rfl
   obtain ⟨w37, p38, kI, BH, FI, qf⟩ := zz
   refine zg (qf rfl) ?_
   refine nst kI fun s hO => ?_
   refine sfzR 0 hO BH fun s hO BJ BK => ?_
   obtain ⟨h46, H⟩ := H
   have zz := oapp Try.underlying27 ti42 rfl 0 hO rfl hE8.u BJ BK h46 (by decide)
   obtain ⟨w47, p48, c49, Bc, jl, n8, nF⟩ := zz
   dsimp only [sS, sZ] at n8
   refine zg (nF (by exact rfl) (by exact rfl)) ?_
   refine nst jl fun s hO => ?_
   refine sinc (natbd h12 h_t.bd) ?_
   refine au ?_
   exact hX1 _ H _ _ agr ⟨_, _, _, _, ⟨agr, hO, fr⟩, n8⟩
  refine au ?_
  refine zcr (J04 body64 rfl (J4E hO.lt h_t.u H)) fun _ w56 => e3 fun r55 Do Dp => sc0 hO fun s hO => d1 fun yU H => ?_
  have zz := obu Try.underlying27 ti42 hO (yU) rfl
  obtain ⟨w57, p58, qg, BL, FJ, yV⟩ := zz
  refine zg (yV rfl) ?_
  refine nst qg fun s hO => ?_
  refine sfzR 0 hO BL fun s hO rV rW => ?_
  obtain ⟨h66, H⟩ := H
  have zz := oapp Try.underlying27 ti42 rfl 0 hO rfl hE8.u rV rW h66 (by decide)
  obtain ⟨w67, p68, c69, FK, yW, wH, yX⟩ := zz
  dsimp only [sS, sZ] at wH
  refine zg (yX (by exact rfl) (by exact rfl)) ?_
  refine nst yW fun s hO => ?_
  refine sinc (natbd h12 h_t.bd) ?_
  refine au ?_
  exact hX1 _ H _ _ agr ⟨_, _, _, _, ⟨agr, hO, fr⟩, wH⟩
 refine au ?_
 refine sfzR 0 hO hE8.u fun s hO sk BM => ?_
 refine Go1.ret1 Try.func39 rfl ⟨_, _, _, ?_, frs, sk.r, H⟩
 exact (congrArg (fun nn => Value.slice p9 nn c10) BM)
theorem body61 : Body Try.prog 61 := ⟨Try.f61, Try.func61, rfl, by kernel_rfl⟩
theorem J25 {A : List Nat} {w0 : World} {p_l : Option Addr} {c_l : Nat} {l : List Int} (hA : ∀ b ∈ A, b < w0.heap.size) (h_l : ISl (Rp.int .i64) A w0 p_l c_l l) {K : List Int → Prop} (H : J0r l K) :
    CallsV Try.prog 61 #[.slice p_l l.length c_l] w0 (fun v w' => ∃ (r0 : List Int), ∃ (aI : Option Addr), ∃ (aJ : Nat), v = .slice aI r0.length aJ ∧ Same w0 w' ∧ ISl (Rp.int .i64) A w' aI aJ r0 ∧ K r0) := by
 refine cal hA Try.func61 Try.ntmps61 fun hO hB => ?_
 unfold J0r at H
 refine sln0 ?_
 refine scm (H h_l.bd) (fun h1 H => ?_) fun h1 H => ?_
 ·refine au ?_
  refine Go1.ret1 Try.func61 rfl ⟨_, _, _, er, frs, (ISl.null _ _ _), H⟩
 refine sln0 ?_
 refine smk Fl.i H hO fun w2 p4 s hO => ?_
 refine au ?_
 have zz := omakeMap (fun a : Int => Value.int .i64 a) (fun a : Int => Value.int .i64 a) hO
 obtain ⟨w6, B7, nk, hs9, nC⟩ := zz
 refine zg nC ?_
 refine nst nk fun s hO => ?_
 refine sln0 ?_
 refine au ?_
 refine lv [3, 5, 17, 18] hO H.2.2 (fun E (next1_13, k1_14, m1_15, out1_16) σ w => Lo A w0 σ w [(4, .int .i64 (next1_13 : Int)), (19, .int .i64 (k1_14 : Int))] [.any (mapE (fun a : Int => Value.int .i64 a) (fun a : Int => Value.int .i64 a) B7 m1_15), t1 Fl.i 3 p4 l.length l.length out1_16]) ⟨agr, hO, fr⟩ ?_
 refine fun X1 => p3 fun next1_13 k1_14 m1_15 out1_16 => fun H hX1 σ w12 hk => lh hk fun hO hB => ?_
 dsimp only at H
 revert hO; repeat (rename Owns .. => q; clear q)
 intro hO; repeat (rename Sq .. => q; clear q)
 refine scm H (fun h17 H => ?_) fun h17 H => ?_
 ·refine sxl hO h_l.u H.1 H.2.1 ?_
  refine au ?_
  have h18 := H.1
  have h19 := H.2.1
  replace H := H.2.2
  by_cases h20 : mhas m1_15 ((ix l (k1_14 : Int))) = true
  ·refine zs (olookT (a := (ix l (k1_14 : Int))) (MK.int Try.underlying3) 0 hO rfl Try.underlying95 rfl rfl h20) ?_
   refine six1 1 hO (ifp h20 H).1 (ifp h20 H).2.1 ?_
   refine sst (u := (mgt m1_15 ((ix l (k1_14 : Int))))) 1 hO (ifp h20 H).1 (ifp h20 H).2.1 fun w21 s hO => ?_
   refine sinc (natbd h17 h_l.bd) ?_
   refine au ?_
   exact hX1 _ (ifp h20 H).2.2 _ _ agr ⟨agr, hO, fr⟩
  refine zs (olookF (a := (ix l (k1_14 : Int))) (MK.int Try.underlying3) 0 hO rfl Try.underlying95 ti3 rfl rfl h20) ?_
  refine au ?_
  have zz := omapUpd (MK.int Try.underlying3) 0 hO rfl Try.underlying95 (ix l (k1_14 : Int)) (next1_13 : Int)
  obtain ⟨w22, yY, qi⟩ := zz
  refine zg (qi (by exact rfl) (by exact rfl) (by exact rfl)) ?_
  refine nst yY fun s hO => ?_
  refine au ?_
  replace H := (ifn h20 H)
  obtain ⟨h25, H⟩ := H
  refine zo (J06 rfl rfl (wrap_i64 h25)) ?_
  refine six1 1 hO H.1 H.2.1 ?_
  refine sst (u := (next1_13 : Int)) 1 hO H.1 H.2.1 fun w26 s hO => ?_
  refine sinc (natbd h17 h_l.bd) ?_
  refine au ?_
  exact hX1 _ H.2.2 _ _ agr ⟨agr, hO, fr⟩
 refine au ?_
 refine sfz 1 hO fun s hO BN BO => ?_
 refine Go1.ret1 Try.func61 rfl ⟨_, _, _, ?_, frs, BN.r, H⟩
 exact (congrArg (fun nn => Value.slice p4 nn l.length) BO)
theorem body38 : Body Try.prog 38 := ⟨Try.f38, Try.func38, rfl, by kernel_rfl⟩
theorem J1D {A : List Nat} {w0 : World} {u7 : Option Addr} {u9 : Nat} {in_ : List (List Bool)} (hA : ∀ b ∈ A, b < w0.heap.size) (nH : ISl (Rp.sl (Rp.bool)) A w0 u7 u9 in_) {K : List Int → Prop} (H : J0H in_ K) :
    CallsV Try.prog 38 #[.slice u7 in_.length u9] w0 (fun v w' => ∃ (r0 : List Int), ∃ (aI : Option Addr), ∃ (aJ : Nat), v = .slice aI r0.length aJ ∧ Same w0 w' ∧ ISl (Rp.int .i64) A w' aI aJ r0 ∧ K r0) := by
 refine cal hA Try.func38 Try.ntmps38 fun hO hB => ?_
 unfold J0H at H
 refine sln0 ?_
 refine smk Fl.i (H nH.bd) hO fun w1 p4 s hO => ?_
 refine sln1 0 hO ?_
 refine au ?_
 refine lv [0, 3, 10] hO (H nH.bd).2.2 (fun E (k1_7, p1_8) σ w => Lo A w0 σ w [(11, .int .i64 (k1_7 : Int))] [t1 Fl.i 3 p4 in_.length in_.length p1_8]) ⟨agr, hO, fr⟩ ?_
 refine fun X1 => p1 fun k1_7 p1_8 => fun H hX1 σ w6 hk => lh hk fun hO hB => ?_
 dsimp only at H
 revert hO; repeat (rename Owns .. => q; clear q)
 intro hO; repeat (rename Sq .. => q; clear q)
 refine scm H (fun h9 H => ?_) fun h9 H => ?_
 ·refine six1 0 hO H.1 H.2.1 ?_
  refine sst (u := (k1_7 : Int)) 0 hO H.1 H.2.1 fun w10 s hO => ?_
  refine au ?_
  have h13 := H.1
  have h14 := H.2.1
  refine lv [0, 3, 4, 10, 11] hO H.2.2 (fun E y2_12 σ w => Lo A w0 σ w [(5, .int .i64 (y2_12 : Int))] E) ⟨agr, hO, fr⟩ ?_
  refine fun X2 => fun y2_12 => fun H hX2 σ w11 hk => lh hk fun hO hB => ?_
  revert hO; repeat (rename Owns .. => q; clear q)
  intro hO; repeat (rename Sq .. => q; clear q)
  refine scm H (fun h15 H => ?_) fun h15 H => ?_
  ·refine sxls hO nH.u H.1 H.2.1 fun p16 c17 kg => ?_
   refine au ?_
   have h19 := H.1
   have h20 := H.2.1
   have h21 := H.2.2.1
   have h22 := H.2.2.2.1
   refine sxb hO kg.u H.2.2.1 H.2.2.2.1 H.2.2.2.2 (fun h23 H => ?_) fun h23 H => ?_
   ·refine six nH H.1 H.2.1 ?_
    refine slds hO nH.u H.1 H.2.1 fun p24 c25 l5 => ?_
    refine six l5 H.2.2.1 H.2.2.2.1 ?_
    have h27 := H.1
    have h28 := H.2.1
    have h29 := H.2.2.1
    have h30 := H.2.2.2.1
    refine sbd hO l5.u H.2.2.1 H.2.2.2.1 H.2.2.2.2 (fun h31 H => ?_) fun h31 H => ?_
    ·refine sxl1 0 hO H.1 H.2.1 ?_
     refine six1 0 hO H.2.2.1 H.2.2.2.1 ?_
     refine sst (u := (ix (st p1_8 (k1_7 : Int) (k1_7 : Int)) (y2_12 : Int))) 0 hO H.2.2.1 H.2.2.2.1 fun w32 s hO => ?_
     refine au ?_
     have h33 := H.1
     have h34 := H.2.1
     have h35 := H.2.2.1
     have h36 := H.2.2.2.1
     replace H := H.2.2.2.2
     obtain ⟨h37, H⟩ := H
     refine zo (J06 rfl rfl (wrap_i64 h37)) ?_
     refine au ?_
     exact hX1 _ H _ _ agr ⟨agr, hO, fr⟩
    refine au ?_
    obtain ⟨h38, H⟩ := H
    refine zo (J06 rfl rfl (wrap_i64 h38)) ?_
    refine au ?_
    exact hX2 _ H _ _ agr ⟨agr, hO, fr⟩
   refine au ?_
   obtain ⟨h39, H⟩ := H
   refine zo (J06 rfl rfl (wrap_i64 h39)) ?_
   refine au ?_
   exact hX2 _ H _ _ agr ⟨agr, hO, fr⟩
  refine au ?_
  obtain ⟨h40, H⟩ := H
  refine zo (J06 rfl rfl (wrap_i64 h40)) ?_
  refine au ?_
  exact hX1 _ H _ _ agr ⟨agr, hO, fr⟩
 refine au ?_
 refine sfz 0 hO fun s hO BP BQ => ?_
 refine zcr (J04 body61 (by rw [BQ]; exact rfl) (J25 hO.lt BP H)) fun _ w44 => e3 fun r43 Dq Dr => sc0 hO fun s hO => d1 fun y3 H => ?_
 refine au ?_
 refine Go1.ret1 Try.func38 rfl ⟨_, _, _, er, frs, y3.r, H⟩
theorem body40 : Body Try.prog 40 := ⟨Try.f40, Try.func40, rfl, by kernel_rfl⟩
theorem J4z {A : List Nat} {w0 : World} {p_p : Option Addr} {c_p : Nat} {p_q : Option Addr} {c_q : Nat} {p : List Int} {q : List Int} (hA : ∀ b ∈ A, b < w0.heap.size) (h_p : ISl (Rp.int .i64) A w0 p_p c_p p) (h_q : ISl (Rp.int .i64) A w0 p_q c_q q) {K : List Int → Prop} (H : J2H p q K) :
    CallsV Try.prog 40 #[.slice p_p p.length c_p, .slice p_q q.length c_q] w0 (fun v w' => ∃ (r0 : List Int), ∃ (aI : Option Addr), ∃ (aJ : Nat), v = .slice aI r0.length aJ ∧ Same w0 w' ∧ ISl (Rp.int .i64) A w' aI aJ r0 ∧ K r0) := by
 refine cal hA Try.func40 Try.ntmps40 fun hO hB => ?_
 unfold J2H at H
 refine sln0 ?_
 refine smk Fl.i (H h_p.bd) hO fun w1 p4 s hO => ?_
 refine sln0 ?_
 refine au ?_
 refine lv [0, 1, 5, 11] hO (H h_p.bd).2.2 (fun E (k1_7, out1_8) σ w => Lo A w0 σ w [(12, .int .i64 (k1_7 : Int))] [t1 Fl.i 3 p4 p.length p.length out1_8]) ⟨agr, hO, fr⟩ ?_
 refine fun X1 => p1 fun k1_7 out1_8 => fun H hX1 σ w6 hk => lh hk fun hO hB => ?_
 dsimp only at H
 revert hO; repeat (rename Owns .. => q; clear q)
 intro hO; repeat (rename Sq .. => q; clear q)
 refine scm H (fun h9 H => ?_) fun h9 H => ?_
 ·refine au ?_
  refine drs 1 [q0, q0, q0, q0, q0, q1, q0, q0, q0, q0, q1, q0, q0, q3] hO fun w10 s hO => ?_
  refine sxl hO h_p.u H.1 H.2.1 ?_
  have h11 := H.1
  have h12 := H.2.1
  replace H := H.2.2
  obtain ⟨h13, H⟩ := H
  refine GoQ.pure rfl (J7x rfl rfl (wrap_i64 h13)) rfl rfl ?_
  refine sxl hO h_q.u H.1 H.2.1 ?_
  have h14 := H.1
  have h15 := H.2.1
  replace H := H.2.2
  obtain ⟨h16, H⟩ := H
  refine GoQ.pure rfl (J06 rfl rfl (wrap_i64 h16)) rfl rfl ?_
  refine six1 0 hO H.1 H.2.1 ?_
  refine sst (u := (((ix p (k1_7 : Int)) * (4096 : Int)) + (ix q (k1_7 : Int)))) 0 hO H.1 H.2.1 fun w17 s hO => ?_
  refine sinc (natbd h9 h_p.bd) ?_
  refine au ?_
  exact hX1 _ H.2.2 _ _ agr ⟨agr, hO, fr⟩
 refine au ?_
 refine sfz 0 hO fun s hO kg uB => ?_
 refine zcr (J04 body61 (by rw [uB]; exact rfl) (J25 hO.lt kg H)) fun _ w21 => e3 fun r20 y4 y5 => sc0 hO fun s hO => d1 fun rh H => ?_
 refine au ?_
 refine Go1.ret1 Try.func40 rfl ⟨_, _, _, er, frs, rh.r, H⟩
theorem body65 : Body Try.prog 65 := ⟨Try.f65, Try.func65, rfl, by kernel_rfl⟩
theorem J2Z {A : List Nat} {w0 : World} {p_p : Option Addr} {c_p : Nat} {p : List Int} (hA : ∀ b ∈ A, b < w0.heap.size) (h_p : ISl (Rp.int .i64) A w0 p_p c_p p) {K : Int → Prop} (H : J1y p K) :
    CallsV Try.prog 65 #[.slice p_p p.length c_p] w0 (fun v w' => ∃ (r0 : Int), v = .int .i64 r0 ∧ Same w0 w' ∧ K r0) := by
 refine cal hA Try.func65 Try.ntmps65 fun hO hB => ?_
 unfold J1y at H
 refine sln0 ?_
 refine au ?_
 refine lv [6, 7] hO (H h_p.bd) (fun E (n1_2, k1_3) σ w => Lo A w0 σ w [(3, .int .i64 n1_2), (8, .int .i64 (k1_3 : Int))] []) ⟨agr, hO, fr⟩ ?_
 refine fun X1 => p1 fun n1_2 k1_3 => fun H hX1 σ w1 hk => lh hk fun hO hB => ?_
 dsimp only at H
 refine scm H (fun h4 H => ?_) fun h4 H => ?_
 ·refine sxl hO h_p.u H.1 H.2.1 ?_
  refine au ?_
  have h5 := H.1
  have h6 := H.2.1
  replace H := H.2.2
  obtain ⟨h7, H⟩ := H
  refine zo (J06 rfl rfl (wrap_i64 h7)) ?_
  by_cases h8 : n1_2 < ((ix p (k1_3 : Int)) + (1 : Int))
  ·refine zo (J5S rfl rfl h8) ?_
   refine sinc (natbd h4 h_p.bd) ?_
   refine au ?_
   exact hX1 _ (ifp h8 H) _ _ agr ⟨agr, hO, fr⟩
  refine zo (J5Q rfl rfl h8) ?_
  refine sinc (natbd h4 h_p.bd) ?_
  refine au ?_
  exact hX1 _ (ifn h8 H) _ _ agr ⟨agr, hO, fr⟩
 refine au ?_
 refine Go1.ret1 Try.func65 rfl ⟨_, er, frs, H⟩
theorem body41 : Body Try.prog 41 := ⟨Try.f41, Try.func41, rfl, by kernel_rfl⟩
theorem J2z {A : List Nat} {w0 : World} {p_p : Option Addr} {c_p : Nat} {p : List Int} (hA : ∀ b ∈ A, b < w0.heap.size) (h_p : ISl (Rp.int .i64) A w0 p_p c_p p) {K : List (List Int) → Prop} (H : J0y p K) :
    CallsV Try.prog 41 #[.slice p_p p.length c_p] w0 (fun v w' => ∃ (r0 : List (List Int)), ∃ (aI : Option Addr), ∃ (aJ : Nat), v = .slice aI r0.length aJ ∧ Same w0 w' ∧ ISl (Rp.sl (Rp.int .i64)) A w' aI aJ r0 ∧ K r0) := by
 refine cal hA Try.func41 Try.ntmps41 fun hO hB => ?_
 unfold J0y at H
 refine au ?_
 refine zcr (J04 body65 rfl (J2Z hO.lt h_p.u H)) fun _ w2 => e1 fun r1 => sc0 hO fun s hO => fun H => ?_
 obtain ⟨h10, H⟩ := H
 obtain ⟨h11, H⟩ := H
 have zz := t2makeS (m := r1) (e' := 3) Fl.i Try.underlying22 ti26 hO h10 h11 (by decide)
 obtain ⟨w3, p4, jq, hs8, nj, hz13⟩ := zz
 refine zg (nj rfl rfl) ?_
 refine nst jq fun s hO => ?_
 refine sln0 ?_
 refine au ?_
 refine lv [3, 9, 10] hO (H h_p.bd) (fun E (k1_15, out1_16) σ w => ∃ bI, Lo A w0 σ w [(11, .int .i64 (k1_15 : Int))] [t2 Fl.i 26 3 p4 r1.toNat r1.toNat bI out1_16]) ⟨_, ⟨agr, hO, fr⟩⟩ ?_
 refine fun X1 => p1 fun k1_15 out1_16 => fun H hX1 σ w14 hk => e1 fun bI => lh hk fun hO hB => ?_
 dsimp only at H
 revert hO; repeat (rename Owns .. => q; clear q)
 intro hO; repeat (rename Sq .. => q; clear q)
 refine scm H (fun h18 H => ?_) fun h18 H => ?_
 ·refine sxl hO h_p.u H.1 H.2.1 ?_
  refine au ?_
  have h19 := H.1
  have h20 := H.2.1
  replace H := H.2.2
  obtain ⟨h21, H⟩ := H
  obtain ⟨h22, H⟩ := H
  refine zo (J01 Try.underlying22 ti26 rfl rfl h21 (ltn (t2neq 0 hO rfl) h22) (t2some 0 hO rfl h21 h22)) ?_
  refine zs (t2head 0 hO rfl h21 h22 Try.underlying26 rfl rfl) ?_
  refine sbu Fl.i 3 [(k1_15 : Int)] hO fun w23 p24 s hO => ?_
  refine sfr 1 hO fun s hO => ?_
  have zz := t2take (hf := Fl.i) hO h21 h22
  obtain ⟨FL, jW, uC⟩ := zz
  refine nst jW fun s hO => ?_
  have sf := elX hO (uC _)
  refine sfz 2 hO fun s hO BR BS => ?_
  obtain ⟨h33, H⟩ := H
  have zz := oapp Try.underlying26 ti3 rfl 0 hO rfl sf.u BR BS h33 (by decide)
  obtain ⟨w34, p35, c36, FM, y6, lA, y7⟩ := zz
  dsimp only [sS, sZ] at lA
  refine zg (y7 (by exact rfl) (by exact rfl)) ?_
  refine nst y6 fun s hO => ?_
  obtain ⟨h42, H⟩ := H
  obtain ⟨h43, H⟩ := H
  refine zo (J01 Try.underlying22 ti26 rfl rfl h42 (ltn (t2neqH 1 hO rfl) h43) (t2someH 1 hO rfl h42 h43)) ?_
  refine sfr 1 hO fun s hO => ?_
  refine sfr 1 hO fun s hO => ?_
  have zz := t2fix (hf := Fl.i) hO lA.u h42 h43 rfl
  obtain ⟨w44, bV, pV⟩ := zz
  refine zg (pV Try.underlying26 rfl ti26 (by exact rfl) (by exact rfl)) ?_
  refine nst bV fun s hO => ?_
  refine sinc (natbd h18 h_p.bd) ?_
  refine au ?_
  exact hX1 _ H _ _ agr ⟨_, ⟨agr, hO, fr⟩⟩
 refine au ?_
 refine sfz2 0 hO fun s hO ns BT => ?_
 refine Go1.ret1 Try.func41 rfl ⟨_, _, _, ?_, frs, ns.r, H⟩
 exact (congrArg (fun nn => Value.slice p4 nn r1.toNat) BT)
theorem body16 : Body Try.prog 16 := ⟨Try.f16, Try.func16, rfl, by kernel_rfl⟩
theorem J2v {A : List Nat} {w0 : World} {bu : Option Addr} {bw : Nat} {a0 : List (List Int)} (hA : ∀ b ∈ A, b < w0.heap.size) (ai : ISl (Rp.sl (Rp.int .i64)) A w0 bu bw a0) {K : Green → Prop} (H : J0T a0 K) :
    CallsV Try.prog 16 #[.slice bu a0.length bw] w0 (fun v w' => ∃ (r0 : Green), ∃ (mH : Option Addr), ∃ (mI : Nat), ∃ (mJ : Option Addr), ∃ (mK : Nat), ∃ (mM : Option Addr), ∃ (mO : Nat), ∃ (mP : Option Addr), ∃ (mQ : Nat), ∃ (ki : Option Addr), ∃ (kj : Nat), v = .agg #[.slice mH r0.R.length mI, .slice mJ r0.L.length mK, .slice mM r0.J.length mO, .slice mP r0.H.length mQ, .slice ki r0.Below.length kj] ∧ Same w0 w' ∧ ISl (Rp.int .i64) A w' mH mI r0.R ∧ ISl (Rp.int .i64) A w' mJ mK r0.L ∧ ISl (Rp.int .i64) A w' mM mO r0.J ∧ ISl (Rp.int .i64) A w' mP mQ r0.H ∧ ISl (Rp.sl (Rp.bool)) A w' ki kj r0.Below ∧ K r0) := by
 refine cal hA Try.func16 Try.ntmps16 fun hO hB => ?_
 unfold J0T at H
 refine sal hO fun w1 B2 s hO => ?_
 refine au ?_
 refine zcr (J04 body39 rfl (J1u hO.lt ai.u H)) fun _ w5 => e3 fun r4 AF AG => sc0 hO fun s hO => d1 fun rT H => ?_
 refine zcr (J04 body38 rfl (J1D hO.lt rT H)) fun _ w7 => e3 fun r6 mS mT => sc0 hO fun s hO => d1 fun bT H => ?_
 refine au ?_
 refine zcr (J04 body39 rfl (J1u hO.lt ai.u H)) fun _ w9 => e3 fun r8 FN FO => sc0 hO fun s hO => d1 fun BU H => ?_
 refine zcr (J04 body38 rfl (J1D hO.lt BU H)) fun _ w11 => e3 fun r10 nb nc => sc0 hO fun s hO => d1 fun jY H => ?_
 refine zo (J1I Try.underlying29 ti29 (pl := [(0, 1), (1, 1), (2, 1), (3, 1), (4, 1)]) (vs := [(0, .slice mS r6.length mT), (1, .slice nb r10.length nc)]) (cs := #[.slice mS r6.length mT, .slice nb r10.length nc, .slice none 0 0, .slice none 0 0, .slice none 0 0]) (by kernel_rfl) rfl (by kernel_rfl)) ?_
 refine sal hO fun w12 B13 s hO => ?_
 refine sba 0 hO fun w15 s hO => ?_
 refine au ?_
 refine zcr (J04 body39 rfl (J1u hO.lt ai.u H)) fun _ w17 => e3 fun r16 va vb => sc0 hO fun s hO => d1 fun kX H => ?_
 refine au ?_
 refine zcr (J04 body38 rfl (J1D hO.lt kX H)) fun _ w19 => e3 fun r18 oS oT => sc0 hO fun s hO => d1 fun j8 H => ?_
 refine sbs 0 hO fun w20 s hO => ?_
 refine au ?_
 refine zcr (J04 body40 rfl (J4z hO.lt bT.u jY.u H)) fun _ w22 => e3 fun r21 kt ku => sc0 hO fun s hO => d1 fun bz H => ?_
 refine sbs 0 hO fun w23 s hO => ?_
 refine au ?_
 refine zcr (J04 body41 rfl (J2z hO.lt j8.u H)) fun _ w25 => e3 fun r24 vc vd => sc0 hO fun s hO => d1 fun jp H => ?_
 refine sln0 ?_
 refine au ?_
 have jW := Stp.nil (e := 42) (r := 1) hO
 refine nst jW fun s hO => ?_
 have uC := elN (Rp.sl (Rp.bool)) hO
 refine lv [2, 3, 4, 5, 32, 33] hO (H jp.bd) (fun E (k1_30, d_31) σ w => ∃ n36 p34 c35 rk, (fun Z => Lo A w0 σ w [(34, .int .i64 (k1_30 : Int))] Z ∧ Els (Rp.sl (Rp.bool)) (bl Z ++ A) w rk d_31 ∧ ISl (Rp.int .i64) (bl Z ++ A) w mS mT r6 ∧ ISl (Rp.int .i64) (bl Z ++ A) w nb nc r10 ∧ ISl (Rp.sl (Rp.bool)) (bl Z ++ A) w va vb r16 ∧ ISl (Rp.int .i64) (bl Z ++ A) w oS oT r18 ∧ ISl (Rp.int .i64) (bl Z ++ A) w kt ku r21 ∧ ISl (Rp.sl (Rp.int .i64)) (bl Z ++ A) w vc vd r24) (esets E [(0, .row 42 1 p34 n36 c35 rk), (1, .blk B13 (.cells #[.slice mS r6.length mT, .slice nb r10.length nc, .slice oS r18.length oT, .slice kt r21.length ku, .slice p34 n36 c35] 29 (0, 0)))])) ⟨_, _, _, _, ⟨agr, hO, fr⟩, uC.u, bT.u, jY.u, kX.u, j8.u, bz.u, jp.u⟩ ?_
 refine fun X1 => p1 fun k1_30 d_31 => fun H hX1 σ w29 hk => e4 fun n36 p34 c35 rk => d1 fun hL => d1 fun nt => d1 fun bT => d4 fun jY kX j8 bz jp => lh hk (fun hO hB => ?_) hL
 dsimp only [esets, sS, sZ] at hO hB nt bT jY kX j8 bz jp
 dsimp only at H
 revert hO; repeat (rename Owns .. => q; clear q)
 intro hO; repeat (rename Sq .. => q; clear q)
 refine scm H (fun h37 H => ?_) fun h37 H => ?_
 ·refine sxls hO jp H.1 H.2.1 fun p38 c39 ph => ?_
  refine sln0 ?_
  refine au ?_
  refine snil Fl.bool 4 hO fun s hO => ?_
  refine lv [2, 3, 4, 5, 7, 32, 33, 34, 38, 39] hO H.2.2 (fun E (k2_43, d_44) σ w => ∃ n47 p45 c46, (fun Z => Lo A w0 σ w [(8, .slice p45 n47 c46), (40, .int .i64 (k2_43 : Int))] Z ∧ Els (Rp.sl (Rp.bool)) (bl Z ++ A) w rk d_31 ∧ ISl (Rp.int .i64) (bl Z ++ A) w mS mT r6 ∧ ISl (Rp.int .i64) (bl Z ++ A) w nb nc r10 ∧ ISl (Rp.sl (Rp.bool)) (bl Z ++ A) w va vb r16 ∧ ISl (Rp.int .i64) (bl Z ++ A) w oS oT r18 ∧ ISl (Rp.int .i64) (bl Z ++ A) w kt ku r21 ∧ ISl (Rp.sl (Rp.int .i64)) (bl Z ++ A) w vc vd r24 ∧ ISl (Rp.int .i64) (bl Z ++ A) w p38 c39 (ix r24 (k1_30 : Int))) (E.set 0 (t1 Fl.bool 4 p45 n47 c46 d_44))) ⟨_, _, _, ⟨agr, hO, fr⟩, nt.u, bT.u, jY.u, kX.u, j8.u, bz.u, jp.u, ph.u⟩ ?_
  refine fun X2 => p1 fun k2_43 d_44 => fun H hX2 σ w42 hk => e3 fun n47 p45 c46 => d1 fun hL => d1 fun nt => d1 fun bT => d1 fun jY => d4 fun kX j8 bz jp ph => lh hk (fun hO hB => ?_) hL
  dsimp only [esets, sS, sZ] at hO hB nt bT jY kX j8 bz jp ph
  dsimp only at H
  revert hO; repeat (rename Owns .. => q; clear q)
  intro hO; repeat (rename Sq .. => q; clear q)
  refine scm H (fun h48 H => ?_) fun h48 H => ?_
  ·refine sxls hO jp H.1 H.2.1 fun p49 c50 BV => ?_
   refine au ?_
   refine drs 6 [q0, q0, q0, q0, q1, q0, q1, q0, q0, q1, q0, q1, q2, q3, q0] hO fun w52 s hO => ?_
   refine sxl hO BV.u H.2.2.1 H.2.2.2.1 ?_
   refine sxls hO kX.u H.2.2.2.2.1 H.2.2.2.2.2.1 fun p53 c54 pk => ?_
   refine sxl hO ph.u H.2.2.2.2.2.2.1 H.2.2.2.2.2.2.2.1 ?_
   refine sxl hO pk.u H.2.2.2.2.2.2.2.2.1 H.2.2.2.2.2.2.2.2.2.1 ?_
   refine sap1 (ix (ix r16 (ix (ix r24 (k2_43 : Int)) (0 : Int))) (ix (ix r24 (k1_30 : Int)) (0 : Int))) 0 hO H.2.2.2.2.2.2.2.2.2.2 fun _ w56 p57 c58 s hO => ?_
   refine sinc (natbd h48 jp.bd) ?_
   refine au ?_
   exact hX2 _ H.2.2.2.2.2.2.2.2.2.2.2 _ _ agr ⟨_, _, _, ⟨agr, hO, fr⟩, nt.u, bT.u, jY.u, kX.u, j8.u, bz.u, jp.u, ph.u⟩
  refine au ?_
  refine sfz 0 hO fun s hO sn sq => ?_
  have zz := obu Try.underlying27 ti42 hO (sn.u) sq
  obtain ⟨w61, p62, pW, ji, FP, y8⟩ := zz
  refine zg (y8 rfl) ?_
  refine nst pW fun s hO => ?_
  refine sfzR 0 hO ji fun s hO rX rY => ?_
  obtain ⟨h70, H⟩ := H
  have zz := oapp Try.underlying27 ti42 rfl 0 hO rfl nt.u rX rY h70 (by decide)
  obtain ⟨w71, p72, c73, FQ, y9, wI, qk⟩ := zz
  dsimp only [sS, sZ] at wI
  refine zg (qk (by exact rfl) (by exact rfl)) ?_
  refine nst y9 fun s hO => ?_
  refine sbs 1 hO fun w79 s hO => ?_
  refine sinc (natbd h37 jp.bd) ?_
  refine au ?_
  exact hX1 _ H _ _ agr ⟨_, _, _, _, ⟨agr, hO, fr⟩, wI.u, bT.u, jY.u, kX.u, j8.u, bz.u, jp.u⟩
 refine sag 1 hO ?_
 refine sba 2 hO fun w80 s hO => ?_
 refine au ?_
 refine sfzR 0 hO nt.u fun s hO BW BX => ?_
 refine Go1.retC1 Try.func16 rfl rfl (rlb 1 hO) ⟨((⟨r6, r10, r18, r21, d_31⟩ : Green)), _, _, _, _, _, _, _, _, _, _, ?_, frs, bT.r, jY.r, j8.r, bz.r, BW.r, H⟩
 exact (congrArg (fun l => Value.agg (List.toArray l)) (J0v rfl (J0v rfl (J0v rfl (J0v rfl (J0v (congrArg (fun nn => Value.slice p34 nn c35) BX) rfl))))))
theorem body66 : Body Try.prog 66 := ⟨Try.f66, Try.func66, rfl, by kernel_rfl⟩
theorem J3Z {A : List Nat} {w0 : World} {rL : Option Addr} {rM : Nat} {set_ : List Bool} (hA : ∀ b ∈ A, b < w0.heap.size) (nI : ISl (Rp.bool) A w0 rL rM set_) {K : List Int → Prop} (H : J1c set_ K) :
    CallsV Try.prog 66 #[.slice rL set_.length rM] w0 (fun v w' => ∃ (r0 : List Int), ∃ (oW : Nat), ∃ (aI : Option Addr), ∃ (aJ : Nat), v = .slice aI oW aJ ∧ Same w0 w' ∧ Owns w0.heap.size w' [t1 Fl.i 3 aI oW aJ r0] A ∧ K r0) := by
 refine cal hA Try.func66 Try.ntmps66 fun hO hB => ?_
 unfold J1c at H
 refine sln0 ?_
 refine au ?_
 refine snil Fl.i 3 hO fun s hO => ?_
 refine lv [6, 7] hO (H nI.bd) (fun E (k1_3, l1_4) σ w => ∃ n7 p5 c6, Lo A w0 σ w [(3, .slice p5 n7 c6), (8, .int .i64 (k1_3 : Int))] [t1 Fl.i 3 p5 n7 c6 l1_4]) ⟨_, _, _, ⟨agr, hO, fr⟩⟩ ?_
 refine fun X1 => p1 fun k1_3 l1_4 => fun H hX1 σ w2 hk => e3 fun n7 p5 c6 => lh hk fun hO hB => ?_
 dsimp only at H
 revert hO; repeat (rename Owns .. => q; clear q)
 intro hO; repeat (rename Sq .. => q; clear q)
 refine scm H (fun h8 H => ?_) fun h8 H => ?_
 ·refine au ?_
  have h9 := H.1
  have h10 := H.2.1
  refine sxb hO nI.u H.1 H.2.1 H.2.2 (fun h11 H => ?_) fun h11 H => ?_
  ·refine au ?_
   refine sap1 ((k1_3 : Int)) 0 hO H fun _ w12 p13 c14 s hO => ?_
   refine sinc (natbd h8 nI.bd) ?_
   refine au ?_
   exact hX1 _ H.2 _ _ agr ⟨_, _, _, ⟨agr, hO, fr⟩⟩
  refine sinc (natbd h8 nI.bd) ?_
  refine au ?_
  exact hX1 _ H _ _ agr ⟨_, _, _, ⟨agr, hO, fr⟩⟩
 refine au ?_
 refine Go1.ret1 Try.func66 rfl ⟨_, _, _, _, er, frs, hO, H⟩
theorem body43 : Body Try.prog 43 := ⟨Try.f43, Try.func43, rfl, by kernel_rfl⟩
theorem J3W {A : List Nat} {w0 : World} {p_p : Option Addr} {c_p : Nat} {po : Option Addr} {pp : Nat} {p : List Int} {class_ : List Int} (hA : ∀ b ∈ A, b < w0.heap.size) (h_p : ISl (Rp.int .i64) A w0 p_p c_p p) (nu : ISl (Rp.int .i64) A w0 po pp class_) {K : List Int → Prop} (H : J3s p class_ K) :
    CallsV Try.prog 43 #[.slice p_p p.length c_p, .slice po class_.length pp] w0 (fun v w' => ∃ (r0 : List Int), ∃ (aI : Option Addr), ∃ (aJ : Nat), v = .slice aI r0.length aJ ∧ Same w0 w' ∧ ISl (Rp.int .i64) A w' aI aJ r0 ∧ K r0) := by
 refine cal hA Try.func43 Try.ntmps43 fun hO hB => ?_
 unfold J3s at H
 refine au ?_
 refine zcr (J04 body65 rfl (J2Z hO.lt h_p.u H)) fun _ w2 => e1 fun r1 => sc0 hO fun s hO => fun H => ?_
 refine smk Fl.bool H hO fun w3 p4 s hO => ?_
 refine sln0 ?_
 refine au ?_
 refine lv [0, 5, 11, 12] hO (H.2.2 nu.bd) (fun E (k1_7, in1_8) σ w => Lo A w0 σ w [(13, .int .i64 (k1_7 : Int))] [t1 Fl.bool 4 p4 r1.toNat r1.toNat in1_8]) ⟨agr, hO, fr⟩ ?_
 refine fun X1 => p1 fun k1_7 in1_8 => fun H hX1 σ w6 hk => lh hk fun hO hB => ?_
 dsimp only at H
 revert hO; repeat (rename Owns .. => q; clear q)
 intro hO; repeat (rename Sq .. => q; clear q)
 refine scm H (fun h9 H => ?_) fun h9 H => ?_
 ·refine sxl hO nu.u H.1 H.2.1 ?_
  refine sxl hO h_p.u H.2.2.1 H.2.2.2.1 ?_
  refine six1 0 hO H.2.2.2.2.1 H.2.2.2.2.2.1 ?_
  refine sst (u := true) 0 hO H.2.2.2.2.1 H.2.2.2.2.2.1 fun w10 s hO => ?_
  refine sinc (natbd h9 nu.bd) ?_
  refine au ?_
  exact hX1 _ H.2.2.2.2.2.2 _ _ agr ⟨agr, hO, fr⟩
 refine au ?_
 have BY := t1lend 0 hO
 have B1 := t1n 0 hO
 have hOc13 := hO.drop 0
 refine zcr (J04 body66 (by rw [B1]; exact rfl) (J3Z hOc13.lt BY H)) fun _ w16 => e4 fun r14 Ds u5 u6 => sc1 hO fun s hO => fun H => ?_
 refine au ?_
 refine sfz 0 hO fun s hO kg uB => ?_
 refine Go1.ret1 Try.func43 rfl ⟨_, _, _, ?_, frs, kg.r, H⟩
 exact (congrArg (fun nn => Value.slice u5 nn u6) uB)
theorem body18 : Body Try.prog 18 := ⟨Try.f18, Try.func18, rfl, by kernel_rfl⟩
theorem J4S {A : List Nat} {w0 : World} {bu : Option Addr} {bw : Nat} {a0 : List (List Int)} {a1 : Int} (hA : ∀ b ∈ A, b < w0.heap.size) (ai : ISl (Rp.sl (Rp.int .i64)) A w0 bu bw a0) {K : Box → Prop} (H : J3e a0 a1 K) :
    CallsV Try.prog 18 #[.slice bu a0.length bw, .int .i64 a1] w0 (fun v w' => ∃ (r0 : Box), ∃ (k9 : Option Addr), ∃ (ld : Nat), ∃ (lg : Option Addr), ∃ (li : Nat), ∃ (kl : Option Addr), ∃ (km : Nat), ∃ (jt : Option Addr), ∃ (ju : Nat), v = .agg #[.slice k9 r0.Rows.length ld, .slice lg r0.Cols.length li, .slice kl r0.Cells.length km, .slice jt r0.Groups.length ju] ∧ Same w0 w' ∧ ISl (Rp.int .i64) A w' k9 ld r0.Rows ∧ ISl (Rp.int .i64) A w' lg li r0.Cols ∧ ISl (Rp.sl (Rp.sl (Rp.int .i64))) A w' kl km r0.Cells ∧ ISl (Rp.sl (Rp.bool)) A w' jt ju r0.Groups ∧ K r0) := by
 refine cal hA Try.func18 Try.ntmps18 fun hO hB => ?_
 unfold J3e at H
 refine sal hO fun w1 B2 s hO => ?_
 refine au ?_
 refine zcr (J04 body16 rfl (J2v hO.lt ai.u H)) fun _ w5 => e4 fun r4 pq pr pt => e4 fun pv pC pD pE => e3 fun pF my mz => sc0 hO fun s hO => d1 fun bE => d4 fun bD bG bK bx H => ?_
 refine sal hO fun w6 B7 s hO => ?_
 refine sba 0 hO fun w9 s hO => ?_
 refine au ?_
 refine zcr (J04 body41 rfl (J2z hO.lt bG.u H)) fun _ w11 => e3 fun r10 nb nc => sc0 hO fun s hO => d1 fun jY H => ?_
 refine sxls hO jY H.1 H.2.1 fun p12 c13 bF => ?_
 refine au ?_
 refine drA Same.tr 1 [(0, m0), (1, m1), (2, m0), (4, m0), (5, m1), (6, m0), (3, m2), (7, m2), (8, m0), (9, m4), (10, m3)] hO fun w15 s hO => ?_
 have pg := hO.le
 have hw17 := (fr : Fr (bl []) w0 _ w15).ch.size
 refine au ?_
 refine sbl 0 ?_
 refine au ?_
 refine au ?_
 refine sbl 0 ?_
 refine au ?_
 refine GoQA.loudI rfl rfl fun w18 A19 B3 => ?_
 refine sgw B3 hO fun s hO => ?_
 have h23 := H.1
 have h24 := H.2.1
 refine GoAt.call (J04 body43 rfl (J3W hO.lt bE.u bF.u H.2.2)) (fun _ _ hr => ⟨fun _ => saq hr, Same.kp hO (saq hr)⟩) rfl fun _ w22 => e3 fun r21 kt ku => sA0 hO fun s hO => d1 fun bz H => ?_
 refine GoQA.loudI rfl rfl fun w25 A26 B4 => ?_
 refine sgw B4 hO fun s hO => ?_
 refine GoAt.call (J04 body43 rfl (J3W hO.lt bD.u bF.u H)) (fun _ _ hr => ⟨fun _ => saq hr, Same.kp hO (saq hr)⟩) rfl fun _ w29 => e3 fun r28 mA mB => sA0 hO fun s hO => d1 fun bH H => ?_
 refine GoQA.pure rfl (J1I Try.underlying35 ti35 (pl := [(0, 1), (1, 1), (2, 1), (3, 1)]) (vs := [(0, .slice kt r21.length ku), (1, .slice mA r28.length mB)]) (cs := #[.slice kt r21.length ku, .slice mA r28.length mB, .slice none 0 0, .slice none 0 0]) (by kernel_rfl) rfl (by kernel_rfl)) rfl rfl ?_
 refine GoQA.alloc rfl rfl (alAlloc (cs := #[.slice none 0 0, .slice none 0 0, .slice none 0 0, .slice none 0 0]) ti35 rfl) ?_
 intro w31 A32 b33 A34 B9 Ca hd37 hnb38 hh39
 refine sgw B9 hO fun s hO => ?_
 refine sgn (e := .blk b33 (.cells #[.slice none 0 0, .slice none 0 0, .slice none 0 0, .slice none 0 0] 35 (0, 0))) Ca hO pg hw17 hnb38 rfl hh39 hd37 (fr : Fr (bl []) w0 _ w31) fun s hO hB => ?_
 refine GoQA.lastI rfl rfl fun w40 A41 Cb => ?_
 refine sgw Cb hO fun s hO => ?_
 refine sba 0 hO fun w43 s hO => ?_
 refine GoQA.nil fun w44 A45 Cc Cd => ?_
 refine sgw Cc hO fun s hO => ?_
 refine spm Cd hO fun s hO => ?_
 refine sln0 ?_
 refine au ?_
 have zc := Stp.nil (e := 22) (r := 1) hO
 refine nst zc fun s hO => ?_
 have Ce := elN (Rp.sl (Rp.sl (Rp.int .i64))) hO
 have zd := Stp.nil (e := 42) (r := 1) hO
 refine nst zd fun s hO => ?_
 have bM := elN (Rp.sl (Rp.bool)) hO
 refine lv [0, 4, 5, 6, 7, 36, 37] hO (H bz.bd) (fun E (k1_55, d_56, d_62) σ w => ∃ n61 p59 c60 uD n67 p65 c66 pG, (fun Z => Lo A w0 σ w [(38, .int .i64 (k1_55 : Int))] Z ∧ Els (Rp.sl (Rp.bool)) (bl Z ++ A) w uD d_56 ∧ Els (Rp.sl (Rp.sl (Rp.int .i64))) (bl Z ++ A) w pG d_62 ∧ ISl (Rp.int .i64) (bl Z ++ A) w pq pr r4.R ∧ ISl (Rp.int .i64) (bl Z ++ A) w pt pv r4.L ∧ ISl (Rp.int .i64) (bl Z ++ A) w pC pD r4.J ∧ ISl (Rp.int .i64) (bl Z ++ A) w pE pF r4.H ∧ ISl (Rp.sl (Rp.bool)) (bl Z ++ A) w my mz r4.Below ∧ ISl (Rp.int .i64) (bl Z ++ A) w p12 c13 (ix r10 a1) ∧ ISl (Rp.int .i64) (bl Z ++ A) w kt ku r21 ∧ ISl (Rp.int .i64) (bl Z ++ A) w mA mB r28) (esets E [(0, .row 42 1 p59 n61 c60 uD), (1, .row 22 1 p65 n67 c66 pG), (2, .blk b33 (.cells #[.slice kt r21.length ku, .slice mA r28.length mB, .slice p65 n67 c66, .slice p59 n61 c60] 35 (0, 0)))])) ⟨_, _, _, _, _, _, _, _, ⟨agr, hO, fr⟩, bM.u, Ce.u, bE.u, bD.u, bG.u, bK.u, bx.u, bF.u, bz.u, bH.u⟩ ?_
 refine fun X1 => p2 fun k1_55 d_56 d_62 => fun H hX1 σ w54 hk => e4 fun n61 p59 c60 uD => e4 fun n67 p65 c66 pG => d1 fun hL => d1 fun uE => d1 fun ji => d1 fun bE => d1 fun bD => d1 fun bG => d4 fun bK bx bF bz bH => lh hk (fun hO hB => ?_) hL
 dsimp only [esets, sS, sZ] at hO hB uE ji bE bD bG bK bx bF bz bH
 dsimp only at H
 revert hO; repeat (rename Owns .. => q; clear q)
 intro hO; repeat (rename Sq .. => q; clear q)
 refine scm H (fun h68 H => ?_) fun h68 H => ?_
 ·refine sxl hO bz H.1 H.2.1 ?_
  refine sln0 ?_
  refine au ?_
  have zh := Stp.nil (e := 26) (r := 1) hO
  refine nst zh fun s hO => ?_
  have Cf := elN (Rp.sl (Rp.int .i64)) hO
  refine snil Fl.bool 4 hO fun s hO => ?_
  refine lv [0, 4, 5, 6, 7, 9, 36, 37, 38, 43, 44] hO (H.2.2 bH.bd) (fun E (k2_74, d_75, d_79, d_85) σ w => ∃ n78 p76 c77 n84 p82 c83 uF n90 p88 c89 n9, (fun Z => Lo A w0 σ w [(10, .slice p82 n84 c83), (11, .slice p76 n78 c77), (45, .int .i64 (k2_74 : Int))] Z ∧ Els (Rp.sl (Rp.int .i64)) (bl Z ++ A) w uF d_79 ∧ Els (Rp.sl (Rp.bool)) (bl Z ++ A) w n9 d_85 ∧ Els (Rp.sl (Rp.sl (Rp.int .i64))) (bl Z ++ A) w pG d_62 ∧ ISl (Rp.int .i64) (bl Z ++ A) w pq pr r4.R ∧ ISl (Rp.int .i64) (bl Z ++ A) w pt pv r4.L ∧ ISl (Rp.int .i64) (bl Z ++ A) w pC pD r4.J ∧ ISl (Rp.int .i64) (bl Z ++ A) w pE pF r4.H ∧ ISl (Rp.sl (Rp.bool)) (bl Z ++ A) w my mz r4.Below ∧ ISl (Rp.int .i64) (bl Z ++ A) w p12 c13 (ix r10 a1) ∧ ISl (Rp.int .i64) (bl Z ++ A) w kt ku r21 ∧ ISl (Rp.int .i64) (bl Z ++ A) w mA mB r28) (esets E [(0, t1 Fl.bool 4 p76 n78 c77 d_75), (1, .row 26 1 p82 n84 c83 uF), (2, .row 42 1 p88 n90 c89 n9), (4, .blk b33 (.cells #[.slice kt r21.length ku, .slice mA r28.length mB, .slice p65 n67 c66, .slice p88 n90 c89] 35 (0, 0)))])) ⟨_, _, _, _, _, _, _, _, _, _, _, ⟨agr, hO, fr⟩, Cf.u, uE.u, ji.u, bE.u, bD.u, bG.u, bK.u, bx.u, bF.u, bz.u, bH.u⟩ ?_
  refine fun X2 => p3 fun k2_74 d_75 d_79 d_85 => fun H hX2 σ w73 hk => e4 fun n78 p76 c77 n84 => e4 fun p82 c83 uF n90 => e3 fun p88 c89 n9 => d1 fun hL => d1 fun uG => d1 fun lG => d1 fun ji => d1 fun bE => d1 fun bD => d1 fun bG => d4 fun bK bx bF bz bH => lh hk (fun hO hB => ?_) hL
  dsimp only [esets, sS, sZ] at hO hB uG lG ji bE bD bG bK bx bF bz bH
  dsimp only at H
  revert hO; repeat (rename Owns .. => q; clear q)
  intro hO; repeat (rename Sq .. => q; clear q)
  refine scm H (fun h91 H => ?_) fun h91 H => ?_
  ·refine sxl hO bH H.1 H.2.1 ?_
   refine sln0 ?_
   refine au ?_
   refine snil Fl.i 3 hO fun s hO => ?_
   refine lv [0, 4, 5, 6, 7, 9, 11, 13, 36, 37, 38, 43, 44, 45, 49, 50] hO (H.2.2 bF.bd) (fun E (b3_94, k3_95, d_96, d_100) σ w => ∃ n99 p97 c98 uH uI uJ ro, (fun Z => Lo A w0 σ w [(10, .slice uI uH uJ), (14, .slice p97 n99 c98), (15, .bool b3_94), (51, .int .i64 (k3_95 : Int))] Z ∧ Els (Rp.sl (Rp.int .i64)) (bl Z ++ A) w ro d_100 ∧ Els (Rp.sl (Rp.bool)) (bl Z ++ A) w n9 d_85 ∧ Els (Rp.sl (Rp.sl (Rp.int .i64))) (bl Z ++ A) w pG d_62 ∧ ISl (Rp.int .i64) (bl Z ++ A) w pq pr r4.R ∧ ISl (Rp.int .i64) (bl Z ++ A) w pt pv r4.L ∧ ISl (Rp.int .i64) (bl Z ++ A) w pC pD r4.J ∧ ISl (Rp.int .i64) (bl Z ++ A) w pE pF r4.H ∧ ISl (Rp.sl (Rp.bool)) (bl Z ++ A) w my mz r4.Below ∧ ISl (Rp.int .i64) (bl Z ++ A) w p12 c13 (ix r10 a1) ∧ ISl (Rp.int .i64) (bl Z ++ A) w kt ku r21 ∧ ISl (Rp.int .i64) (bl Z ++ A) w mA mB r28) (esets E [(0, t1 Fl.i 3 p97 n99 c98 d_96), (2, .row 26 1 uI uH uJ ro)])) ⟨_, _, _, _, _, _, _, ⟨agr, hO, fr⟩, uG.u, lG.u, ji.u, bE.u, bD.u, bG.u, bK.u, bx.u, bF.u, bz.u, bH.u⟩ ?_
   refine fun X3 => p3 fun b3_94 k3_95 d_96 d_100 => fun H hX3 σ w93 hk => e4 fun n99 p97 c98 uH => e3 fun uI uJ ro => d1 fun hL => d1 fun lC => d1 fun lG => d1 fun ji => d1 fun bE => d1 fun bD => d1 fun bG => d4 fun bK bx bF bz bH => lh hk (fun hO hB => ?_) hL
   dsimp only [esets, sS, sZ] at hO hB lC lG ji bE bD bG bK bx bF bz bH
   dsimp only at H
   revert hO; repeat (rename Owns .. => q; clear q)
   intro hO; repeat (rename Sq .. => q; clear q)
   refine scm H (fun lm H => ?_) fun lm H => ?_
   ·refine sxl hO bF H.1 H.2.1 ?_
    refine sxl hO bE H.2.2.1 H.2.2.2.1 ?_
    refine au ?_
    have nU := H.1
    have rq := H.2.1
    have vD := H.2.2.1
    have FS := H.2.2.2.1
    refine scm H.2.2.2.2 (fun Cg H => ?_) fun Cg H => ?_
    ·refine six bD H.1 H.2.1 ?_
     refine sld hO bD H.1 H.2.1 ?_
     refine au ?_
     have FT := H.1
     have FU := H.2.1
     refine scm H.2.2 (fun pI H => ?_) fun pI H => ?_
     ·refine au ?_
      refine sap1 ((ix (ix r10 a1) (k3_95 : Int))) 0 hO H fun _ FV FW FX s hO => ?_
      refine au ?_
      cases b3_94
      ·refine six ai (iF H.2).1 (iF H.2).2.1 ?_
       refine slds hO ai.u (iF H.2).1 (iF H.2).2.1 fun FY F0 ve => ?_
       refine six ve (iF H.2).2.2.1 (iF H.2).2.2.2.1 ?_
       refine sld hO ve.u (iF H.2).2.2.1 (iF H.2).2.2.2.1 ?_
       refine au ?_
       have oU := (iF H.2).1
       have oV := (iF H.2).2.1
       have nV := (iF H.2).2.2.1
       have nW := (iF H.2).2.2.2.1
       refine scm (iF H.2).2.2.2.2 (fun Ci H => ?_) fun Ci H => ?_
       ·refine sinc (natbd lm bF.bd) ?_
        refine au ?_
        exact hX3 _ H _ _ agr ⟨_, _, _, _, _, _, _, ⟨agr, hO, fr⟩, lC.u, lG.u, ji.u, bE.u, bD.u, bG.u, bK.u, bx.u, bF.u, bz.u, bH.u⟩
       refine sinc (natbd lm bF.bd) ?_
       refine au ?_
       exact hX3 _ H _ _ agr ⟨_, _, _, _, _, _, _, ⟨agr, hO, fr⟩, lC.u, lG.u, ji.u, bE.u, bD.u, bG.u, bK.u, bx.u, bF.u, bz.u, bH.u⟩
      refine sinc (natbd lm bF.bd) ?_
      refine au ?_
      exact hX3 _ (iT H.2) _ _ agr ⟨_, _, _, _, _, _, _, ⟨agr, hO, fr⟩, lC.u, lG.u, ji.u, bE.u, bD.u, bG.u, bK.u, bx.u, bF.u, bz.u, bH.u⟩
     refine sinc (natbd lm bF.bd) ?_
     refine au ?_
     exact hX3 _ H _ _ agr ⟨_, _, _, _, _, _, _, ⟨agr, hO, fr⟩, lC.u, lG.u, ji.u, bE.u, bD.u, bG.u, bK.u, bx.u, bF.u, bz.u, bH.u⟩
    refine sinc (natbd lm bF.bd) ?_
    refine au ?_
    exact hX3 _ H _ _ agr ⟨_, _, _, _, _, _, _, ⟨agr, hO, fr⟩, lC.u, lG.u, ji.u, bE.u, bD.u, bG.u, bK.u, bx.u, bF.u, bz.u, bH.u⟩
   refine au ?_
   refine sfz 0 hO fun s hO zj zl => ?_
   have zz := obu Try.underlying22 ti26 hO (zj) zl
   obtain ⟨F1, F2, wJ, zu, Du, wK⟩ := zz
   refine zg (wK rfl) ?_
   refine nst wJ fun s hO => ?_
   refine sfzR 0 hO zu.u fun s hO zw zx => ?_
   obtain ⟨Cj, H⟩ := H
   have zz := oapp Try.underlying22 ti26 rfl 1 hO rfl lC.u zw.u zx Cj (by decide)
   obtain ⟨F3, F4, F5, Dv, wL, vg, wM⟩ := zz
   dsimp only [sS, sZ] at vg
   refine zg (wM (by exact rfl) (by exact rfl)) ?_
   refine nst wL fun s hO => ?_
   refine au ?_
   refine sap1 b3_94 0 hO H fun _ F6 F7 F8 s hO => ?_
   refine sinc (natbd h91 bH.bd) ?_
   refine au ?_
   exact hX2 _ H.2 _ _ agr ⟨_, _, _, _, _, _, _, _, _, _, _, ⟨agr, hO, fr⟩, vg.u, lG.u, ji.u, bE.u, bD.u, bG.u, bK.u, bx.u, bF.u, bz.u, bH.u⟩
  refine au ?_
  refine drA (CSv.tr [(some ⟨b33, 2, none⟩), (some ⟨b33, 3, none⟩)]) 1 [(0, m0), (1, m1), (2, m0), (5, m0), (6, m1), (7, m0), (3, m4), (4, m2), (10, m0), (8, m4), (9, m2), (11, m3), (12, m0), (13, m3)] hO fun Ck s hO => ?_
  have vh := hO.le
  have hw151 := (fr : Fr (bl []) w0 _ Ck).ch.size
  refine au ?_
  refine GoQA.stable rfl (loadV (.head _) rfl (J0h 4 hO rfl rfl) Try.underlying33 rfl rfl) rfl rfl ?_
  refine au ?_
  refine au ?_
  refine GoQA.stable rfl (loadV (.tail _ (.head _)) rfl (J0h 4 hO rfl rfl) Try.underlying27 rfl rfl) rfl rfl ?_
  refine au ?_
  refine sfzR 1 hO uG.u fun s hO zy zA => ?_
  refine GoQA.alloc rfl rfl (alBuild (n := 1) (parts := [(0, .slice p82 n84 c83)]) (vs := [.slice p82 n84 c83]) Try.underlying33 ti22 (by decide) (by decide) (by decide) (by kernel_rfl) rfl rfl) ?_
  intro od A154 Cl A156 zB zC hd159 hnb160 hh161
  refine sgw zB hO fun s hO => ?_
  have ru := elE (Rp.sl (Rp.sl (Rp.int .i64))) [.slice p82 n84 c83] [d_79] hO (Els.cons rfl ⟨p82, c83, congrArg some (congrArg (fun nn => Value.slice p82 nn c83) zA), zy.u⟩ (Els.nil _ _ _) (by simp [mx]))
  refine sgn (e := .row 22 1 (some ⟨Cl, 0, none⟩) 1 1 [.slice p82 n84 c83]) zC hO vh hw151 hnb160 rfl hh161 hd159 (fr : Fr (bl []) w0 _ od) fun s hO hB => ?_
  replace ru := ru.ch s.ch
  refine GoQA.loudI rfl rfl fun F9 A166 zD => ?_
  refine sgw zD hO fun s hO => ?_
  refine sfzR 0 hO ru.u fun s hO zE zF => ?_
  obtain ⟨Cm, H⟩ := H
  have zz := oapp Try.underlying33 ti22 rfl 2 hO rfl ji.u zE.u zF Cm (by decide)
  obtain ⟨Bo, Ga, Gb, Dw, nJ, vi, wN⟩ := zz
  dsimp only [sS, sZ] at vi
  refine GoAt.step (wN (by exact rfl) (by exact rfl)) (fun _ => (CSv.cons (cs_eq (J0h 3 hO rfl rfl) (J0h 3 nJ.own rfl rfl)) (CSv.cons (cs_eq (J0h 3 hO rfl rfl) (J0h 3 nJ.own rfl rfl)) (CSv.nil _ _)))) (Stp.kp hO nJ) rfl ?_
  refine nst nJ fun s hO => ?_
  refine au ?_
  refine sfz 0 hO fun s hO zG zH => ?_
  refine GoQA.alloc rfl rfl (alBuild (n := 1) (parts := [(0, .slice p76 n78 c77)]) (vs := [.slice p76 n78 c77]) Try.underlying27 ti42 (by decide) (by decide) (by decide) (by kernel_rfl) rfl rfl) ?_
  intro Cn A181 Co A183 zJ zK hd186 hnb187 hh188
  refine sgw zJ hO fun s hO => ?_
  have rv := elE (Rp.sl (Rp.bool)) [.slice p76 n78 c77] [d_75] hO (Els.cons rfl ⟨p76, c77, congrArg some (congrArg (fun nn => Value.slice p76 nn c77) zH), zG.u⟩ (Els.nil _ _ _) (by simp [mx]))
  refine sgn (e := .row 42 1 (some ⟨Co, 0, none⟩) 1 1 [.slice p76 n78 c77]) zK hO vh hw151 hnb187 rfl hh188 hd186 (fr : Fr (bl []) w0 _ Cn) fun s hO hB => ?_
  replace rv := rv.ch s.ch
  refine GoQA.loudI rfl rfl fun Gc A193 zL => ?_
  refine sgw zL hO fun s hO => ?_
  refine sfzR 0 hO rv.u fun s hO zM zN => ?_
  obtain ⟨sw, H⟩ := H
  have zz := oapp Try.underlying27 ti42 rfl 0 hO rfl lG.u zM zN sw (by decide)
  obtain ⟨Gd, Ge, Gf, Dx, nK, vj, o8⟩ := zz
  dsimp only [sS, sZ] at vj
  refine GoAt.step (o8 (by exact rfl) (by exact rfl)) (fun _ => (CSv.cons (cs_eq (J0h 2 hO rfl rfl) (J0h 2 nK.own rfl rfl)) (CSv.cons (cs_eq (J0h 2 hO rfl rfl) (J0h 2 nK.own rfl rfl)) (CSv.nil _ _)))) (Stp.kp hO nK) rfl ?_
  refine nst nK fun s hO => ?_
  refine GoQA.lastI rfl rfl fun Gg A207 zO => ?_
  refine sgw zO hO fun s hO => ?_
  refine sbs 2 hO fun Gh s hO => ?_
  refine au ?_
  refine GoQA.lastI rfl rfl fun Gi A211 zP => ?_
  refine sgw zP hO fun s hO => ?_
  refine sbs 2 hO fun Gj s hO => ?_
  refine GoQA.nil fun Gk A215 zQ zR => ?_
  refine sgw zQ hO fun s hO => ?_
  refine spm zR hO fun s hO => ?_
  refine sinc (natbd h68 bz.bd) ?_
  refine au ?_
  exact hX1 _ H _ _ agr ⟨_, _, _, _, _, _, _, _, ⟨agr, hO, fr⟩, vj.u, vi.u, bE.u, bD.u, bG.u, bK.u, bx.u, bF.u, bz.u, bH.u⟩
 refine sag 2 hO ?_
 refine sba 4 hO fun Gl s hO => ?_
 refine au ?_
 refine sfzR 1 hO ji.u fun s hO zS zT => ?_
 refine sfzR 0 hO uE.u fun s hO zU zV => ?_
 refine Go1.retC1 Try.func18 rfl rfl (rlb 2 hO) ⟨((⟨r21, r28, d_62, d_56⟩ : Box)), _, _, _, _, _, _, _, _, ?_, frs, bz.r, bH.r, zS.r, zU.r, H⟩
 exact (congrArg (fun l => Value.agg (List.toArray l)) (J0v rfl (J0v rfl (J0v (congrArg (fun nn => Value.slice p65 nn c66) zT) (J0v (congrArg (fun nn => Value.slice p59 nn c60) zV) rfl)))))
end Sg
