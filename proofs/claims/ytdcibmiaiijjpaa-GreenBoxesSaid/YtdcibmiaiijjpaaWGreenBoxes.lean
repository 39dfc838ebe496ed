/- -/
import Derived.Test.YtdcibmiaiijjpaaVd
import Derived.Test.YtdcibmiaiijjpaaWBox
import Derived.Test.YtdcibmiaiijjpaaWBoxb
import Derived.Test.YtdcibmiaiijjpaaWBoxc
import Derived.Test.YtdcibmiaiijjpaaWSameBox
namespace Sg
open Go Go.RowKit Go.Proofs
set_option linter.unusedVariables false
set_option linter.unusedSimpArgs false
set_option maxRecDepth 100000
set_option maxHeartbeats 4000000
theorem body33 : Body Try.prog 33 := ⟨Try.f33, Try.func33, rfl, by kernel_rfl⟩
theorem J32 {A : List Nat} {w0 : World} {p_t : Option Addr} {c_t : Nat} {t : List (List Int)} (hA : ∀ b ∈ A, b < w0.heap.size) (h_t : ISl (Rp.sl (Rp.int .i64)) A w0 p_t c_t t) {K : Int → Prop} (H : J2l t K) :
    CallsV Try.prog 33 #[.slice p_t t.length c_t] w0 (fun v w' => ∃ (r0 : Int), v = .int .i64 r0 ∧ Same w0 w' ∧ K r0) := by
 refine cal hA Try.func33 Try.ntmps33 fun hO hB => ?_
 unfold J2l at H
 refine sln0 ?_
 refine scm (H h_t.bd) (fun h1 H => ?_) fun h1 H => ?_
 ·refine au ?_
  refine Go1.ret1 Try.func33 rfl ⟨_, er, frs, H⟩
 refine sln0 ?_
 refine scm H (fun h2 H => ?_) fun h2 H => ?_
 ·refine au ?_
  refine Go1.ret1 Try.func33 rfl ⟨_, er, frs, H⟩
 refine sln0 ?_
 refine au ?_
 refine lv [0, 13, 14] hO H (fun E k1_4 σ w => Lo A w0 σ w [(15, .int .i64 (k1_4 : Int))] []) ⟨agr, hO, fr⟩ ?_
 refine fun X1 => fun k1_4 => fun H hX1 σ w3 hk => lh hk fun hO hB => ?_
 refine scm H (fun h5 H => ?_) fun h5 H => ?_
 ·refine sxls hO h_t.u H.1 H.2.1 fun p6 c7 hi8 => ?_
  refine sln0 ?_
  refine sln0 ?_
  have h9 := H.1
  have h10 := H.2.1
  refine scm (H.2.2 hi8.bd) (fun h11 H => ?_) fun h11 H => ?_
  ·refine sln0 ?_
   refine au ?_
   refine lv [0, 13, 14, 15, 24, 25] hO H (fun E k2_13 σ w => (fun Z => Lo A w0 σ w [(26, .int .i64 (k2_13 : Int))] Z ∧ ISl (Rp.int .i64) (bl Z ++ A) w p6 c7 (ix t (k1_4 : Int))) []) ⟨⟨agr, hO, fr⟩, hi8.u⟩ ?_
   refine fun X2 => fun k2_13 => fun H hX2 σ w12 hk => d1 fun hL => fun hi8 => lh hk (fun hO hB => ?_) hL
   revert hO; repeat (rename Owns .. => q; clear q)
   intro hO; repeat (rename Sq .. => q; clear q)
   refine scm H (fun h14 H => ?_) fun h14 H => ?_
   ·refine sxl hO hi8 H.1 H.2.1 ?_
    refine au ?_
    have h15 := H.1
    have h16 := H.2.1
    refine scm H.2.2 (fun h17 H => ?_) fun h17 H => ?_
    ·refine au ?_
     refine Go1.ret1 Try.func33 rfl ⟨_, er, frs, H⟩
    refine sln0 ?_
    refine scm H (fun h18 H => ?_) fun h18 H => ?_
    ·refine au ?_
     refine Go1.ret1 Try.func33 rfl ⟨_, er, frs, H⟩
    refine sinc (natbd h14 hi8.bd) ?_
    refine au ?_
    exact hX2 _ H _ _ agr ⟨⟨agr, hO, fr⟩, hi8⟩
   refine sinc (natbd h5 h_t.bd) ?_
   refine au ?_
   exact hX1 _ H _ _ agr ⟨agr, hO, fr⟩
  refine au ?_
  refine Go1.ret1 Try.func33 rfl ⟨_, er, frs, H⟩
 refine au ?_
 refine Go1.ret1 Try.func33 rfl ⟨_, er, frs, H⟩
theorem body13 : Body Try.prog 13 := ⟨Try.f13, Try.func13, rfl, by kernel_rfl⟩
theorem J4j {A : List Nat} {w0 : World} {p_t : Option Addr} {c_t : Nat} {t : List (List Int)} {most : Int} (hA : ∀ b ∈ A, b < w0.heap.size) (h_t : ISl (Rp.sl (Rp.int .i64)) A w0 p_t c_t t) {K : Bool → Prop} (H : law15_large t most K) :
    CallsV Try.prog 13 #[.slice p_t t.length c_t, .int .i64 most] w0 (fun v w' => ∃ (r0 : Bool), v = .bool r0 ∧ Same w0 w' ∧ K r0) := by
 refine cal hA Try.func13 Try.ntmps13 fun hO hB => ?_
 unfold law15_large at H
 refine sln0 ?_
 refine scm (H h_t.bd) (fun h1 H => ?_) fun h1 H => ?_
 ·refine au ?_
  refine zcr (J04 body33 rfl (J32 hO.lt h_t.u H)) fun _ w3 => e1 fun r2 => sc0 hO fun s hO => fun H => ?_
  refine scm H (fun h4 H => ?_) fun h4 H => ?_
  ·refine au ?_
   refine Go1.ret1 Try.func13 rfl ⟨_, er, frs, H⟩
  refine au ?_
  refine Go1.ret1 Try.func13 rfl ⟨_, er, frs, H⟩
 refine au ?_
 refine Go1.ret1 Try.func13 rfl ⟨_, er, frs, H⟩
theorem body21 : Body Try.prog 21 := ⟨Try.f21, Try.func21, rfl, by kernel_rfl⟩
theorem J37 {A : List Nat} {w0 : World} (hA : ∀ b ∈ A, b < w0.heap.size) {K : List (List Int) → Prop} (H : law15_flip  K) :
    CallsV Try.prog 21 #[] w0 (fun v w' => ∃ (r0 : List (List Int)), ∃ (aI : Option Addr), ∃ (aJ : Nat), v = .slice aI r0.length aJ ∧ Same w0 w' ∧ ISl (Rp.sl (Rp.int .i64)) A w' aI aJ r0 ∧ K r0) := by
 refine cal hA Try.func21 Try.ntmps21 fun hO hB => ?_
 unfold law15_flip at H
 refine sbu Fl.i 3 [(0 : Int), (1 : Int), (2 : Int)] hO fun w1 p4 s hO => ?_
 refine sbu Fl.i 3 [(1 : Int), (0 : Int), (2 : Int)] hO fun w6 p7 s hO => ?_
 refine sbu Fl.i 3 [(2 : Int), (2 : Int), (2 : Int)] hO fun w9 p10 s hO => ?_
 refine sfz 2 hO fun s hO Cp uK => ?_
 refine sfz 1 hO fun s hO bF Cq => ?_
 refine sfz 0 hO fun s hO uL Cr => ?_
 have zz := J3f (r := Rp.sl (Rp.int .i64)) (n := 3) (parts := [(0, .slice p4 3 3), (1, .slice p7 3 3), (2, .slice p10 3 3)]) (vs := [.slice p4 3 3, .slice p7 3 3, .slice p10 3 3]) (xs := [[(0 : Int), (1 : Int), (2 : Int)], [(1 : Int), (0 : Int), (2 : Int)], [(2 : Int), (2 : Int), (2 : Int)]]) rfl Try.underlying22 ti26 hO (by decide) (by kernel_rfl) (Els.cons rfl ⟨p4, 3, congrArg some (congrArg (fun nn => Value.slice p4 nn 3) uK), Cp.u⟩ (Els.cons rfl ⟨p7, 3, congrArg some (congrArg (fun nn => Value.slice p7 nn 3) Cq), bF.u⟩ (Els.cons rfl ⟨p10, 3, congrArg some (congrArg (fun nn => Value.slice p10 nn 3) Cr), uL⟩ (Els.nil _ _ _) (by simp [mx])) (by simp [mx])) (by simp [mx])) rfl
 obtain ⟨w18, p19, zW, mG, Gm, qb⟩ := zz
 refine zg (qb rfl) ?_
 refine nst zW fun s hO => ?_
 refine au ?_
 refine sfzR 0 hO mG fun s hO oY o3 => ?_
 refine Go1.ret1 Try.func21 rfl ⟨_, _, _, ?_, frs, oY.r, H⟩
 exact (congrArg (fun nn => Value.slice p19 nn 3) o3)
theorem body45 : Body Try.prog 45 := ⟨Try.f45, Try.func45, rfl, by kernel_rfl⟩
theorem body23 : Body Try.prog 23 := ⟨Try.f23, Try.func23, rfl, by kernel_rfl⟩
theorem J42 {A : List Nat} {w0 : World} {p_t : Option Addr} {c_t : Nat} {t : List (List Int)} (hA : ∀ b ∈ A, b < w0.heap.size) (h_t : ISl (Rp.sl (Rp.int .i64)) A w0 p_t c_t t) {K : List Int → Prop} (H : J1i t K) :
    CallsV Try.prog 23 #[.slice p_t t.length c_t] w0 (fun v w' => ∃ (r0 : List Int), ∃ (aI : Option Addr), ∃ (aJ : Nat), v = .slice aI r0.length aJ ∧ Same w0 w' ∧ ISl (Rp.int .i64) A w' aI aJ r0 ∧ K r0) := by
 refine CallsV.of (l := [.slice p_t t.length c_t]) Try.func23 rfl Try.ntmps23 rfl ?_
 have hO := Owns.start hA
 have hB := Fr.refl (bl []) w0
 unfold J1i at H
 replace h_t := h_t.ch (Ch.start A w0)
 refine Go1.seq ?_
 refine Go1.region ?_
 refine GoR.op ((J05 rfl) _) rfl rfl ?_
 refine GoR.nil ?_
 refine Go1.seq ?_
 refine Go1.region ?_
 refine GoR.op ((J00 rfl) _) rfl rfl ?_
 refine GoR.call (J04 body9 rfl (J1f hO.lt h_t H)) rfl rfl ?_
 rintro v5 w2 ⟨r1, aP, aQ, aS, aT, aU, aV, aW, aX, aq, ar, rfl, hs3, aK, aM, aN, aO, ap, H⟩
 have jq := Stp.same hO hs3
 replace hO := jq.own
 replace h_t := h_t.ch jq.ch
 replace hB := hB.trans jq.fr
 have hobt := oalloc (t := 29) (cs := #[.slice none 0 0, .slice none 0 0, .slice none 0 0, .slice none 0 0, .slice none 0 0]) ti29 hO rfl
 obtain ⟨w7, B8, mU, AY, qe⟩ := hobt
 refine GoR.op qe rfl rfl ?_
 replace hO := mU.own
 replace h_t := h_t.ch mU.ch
 replace aK := aK.ch mU.ch
 replace aM := aM.ch mU.ch
 replace aN := aN.ch mU.ch
 replace aO := aO.ch mU.ch
 replace ap := ap.ch mU.ch
 replace hB := hB.trans mU.fr
 have hobt := J2k (us := [.slice aP r1.R.length aQ, .slice aS r1.L.length aT, .slice aU r1.J.length aV, .slice aW r1.H.length aX, .slice aq r1.Below.length ar]) (o := 0) (cs' := #[.slice aP r1.R.length aQ, .slice aS r1.L.length aT, .slice aU r1.J.length aV, .slice aW r1.H.length aX, .slice aq r1.Below.length ar]) 0 hO rfl rfl (Nat.le_of_ble_eq_true rfl) rfl
 obtain ⟨w13, lU, zX⟩ := hobt
 refine GoR.op (zX ti29 (by exact rfl) (by exact rfl) rfl) rfl rfl ?_
 replace hO := lU.own
 replace h_t := h_t.ch lU.ch
 replace aK := aK.ch lU.ch
 replace aM := aM.ch lU.ch
 replace aN := aN.ch lU.ch
 replace aO := aO.ch lU.ch
 replace ap := ap.ch lU.ch
 replace hB := hB.trans lU.fr
 refine GoR.nil ?_
 refine Go1.seq ?_
 refine Go1.region ?_
 refine GoR.op ((J03 Try.underlying29 rfl ti27 rfl (by decide)) _) rfl rfl ?_
 refine GoR.op ((oblk (i := 4) 0 hO rfl rfl Try.underlying27 rfl rfl) _ (Same.refl _)) rfl rfl ?_
 refine GoR.op ((J2G Try.underlying27 rfl) _) rfl rfl ?_
 replace H := H ap.bd
 obtain ⟨h23, H⟩ := H
 obtain ⟨h24, H⟩ := H
 have hobt := omake (n := (r1.Below.length : Int)) (r := Rp.int .i64) (d := (0 : Int)) Try.underlying26 ti3 (fun _ _ => rfl) rfl hO h23 h24 (by decide)
 obtain ⟨w16, p17, Cs, jV, oB, Gn, zY⟩ := hobt
 refine GoR.op (zY rfl rfl) rfl rfl ?_
 replace hO := jV.own
 replace h_t := h_t.ch jV.ch
 replace aK := aK.ch jV.ch
 replace aM := aM.ch jV.ch
 replace aN := aN.ch jV.ch
 replace aO := aO.ch jV.ch
 replace ap := ap.ch jV.ch
 replace hB := hB.trans jV.fr
 have hobt := oalloc (t := 26) (cs := #[.slice none 0 0]) ti26 hO rfl
 obtain ⟨w26, B27, bW, Gp, z3⟩ := hobt
 refine GoR.op z3 rfl rfl ?_
 replace oB := oB.ch bW.ch
 replace hO := bW.own
 replace h_t := h_t.ch bW.ch
 replace aK := aK.ch bW.ch
 replace aM := aM.ch bW.ch
 replace aN := aN.ch bW.ch
 replace aO := aO.ch bW.ch
 replace ap := ap.ch bW.ch
 replace hB := hB.trans bW.fr
 have hobt := J2W (v := .slice p17 r1.Below.length r1.Below.length) (i := 0) (cs' := #[.slice p17 r1.Below.length r1.Below.length]) 0 hO rfl rfl rfl rfl
 obtain ⟨w32, ke, nB⟩ := hobt
 refine GoR.op (nB Try.underlying26 rfl ti26 (by exact rfl) (by exact rfl)) rfl rfl ?_
 replace oB := oB.ch ke.ch
 replace hO := ke.own
 replace h_t := h_t.ch ke.ch
 replace aK := aK.ch ke.ch
 replace aM := aM.ch ke.ch
 replace aN := aN.ch ke.ch
 replace aO := aO.ch ke.ch
 replace ap := ap.ch ke.ch
 replace hB := hB.trans ke.fr
 refine GoR.nil ?_
 refine Go1.seq ?_
 refine Go1.seq ?_
 refine Go1.region ?_
 refine GoR.op ((oblk (i := 0) 0 hO rfl rfl Try.underlying26 rfl rfl) _ (Same.refl _)) rfl rfl ?_
 refine GoR.op ((J3c Try.underlying26 rfl (oB.neq hO 1 rfl)) _) rfl rfl ?_
 refine GoR.op ((J00 rfl) _) rfl rfl ?_
 refine GoR.nil ?_
 refine Go1.block ?_
 refine Go1.loopW (S := Nat × List Int) (fun s σ w => match s with | (k1_36, d_37) => ∃ (lH : List Value), agrees σ [(3, .pointer (some ⟨B8, 0, none⟩)), (4, .pointer (some ⟨B27, 0, none⟩)), (15, .int .i64 ((List.replicate r1.Below.length ((0 : Int))).length : Int)), (16, .int .i64 (k1_36 : Int))] ∧ Owns w0.heap.size w [.blk B27 (.cells #[.slice p17 r1.Below.length r1.Below.length] 26 (0, 0)), .row 3 1 p17 r1.Below.length r1.Below.length lH, .blk B8 (.cells #[.slice aP r1.R.length aQ, .slice aS r1.L.length aT, .slice aU r1.J.length aV, .slice aW r1.H.length aX, .slice aq r1.Below.length ar] 29 (0, 0))] A ∧ Els (Rp.int .i64) (bl [.blk B27 (.cells #[.slice p17 r1.Below.length r1.Below.length] 26 (0, 0)), .row 3 1 p17 r1.Below.length r1.Below.length lH, .blk B8 (.cells #[.slice aP r1.R.length aQ, .slice aS r1.L.length aT, .slice aU r1.J.length aV, .slice aW r1.H.length aX, .slice aq r1.Below.length ar] 29 (0, 0))] ++ A) w lH d_37 ∧ ISl (Rp.int .i64) (bl [.blk B27 (.cells #[.slice p17 r1.Below.length r1.Below.length] 26 (0, 0)), .row 3 1 p17 r1.Below.length r1.Below.length lH, .blk B8 (.cells #[.slice aP r1.R.length aQ, .slice aS r1.L.length aT, .slice aU r1.J.length aV, .slice aW r1.H.length aX, .slice aq r1.Below.length ar] 29 (0, 0))] ++ A) w aP aQ r1.R ∧ ISl (Rp.int .i64) (bl [.blk B27 (.cells #[.slice p17 r1.Below.length r1.Below.length] 26 (0, 0)), .row 3 1 p17 r1.Below.length r1.Below.length lH, .blk B8 (.cells #[.slice aP r1.R.length aQ, .slice aS r1.L.length aT, .slice aU r1.J.length aV, .slice aW r1.H.length aX, .slice aq r1.Below.length ar] 29 (0, 0))] ++ A) w aS aT r1.L ∧ ISl (Rp.int .i64) (bl [.blk B27 (.cells #[.slice p17 r1.Below.length r1.Below.length] 26 (0, 0)), .row 3 1 p17 r1.Below.length r1.Below.length lH, .blk B8 (.cells #[.slice aP r1.R.length aQ, .slice aS r1.L.length aT, .slice aU r1.J.length aV, .slice aW r1.H.length aX, .slice aq r1.Below.length ar] 29 (0, 0))] ++ A) w aU aV r1.J ∧ ISl (Rp.int .i64) (bl [.blk B27 (.cells #[.slice p17 r1.Below.length r1.Below.length] 26 (0, 0)), .row 3 1 p17 r1.Below.length r1.Below.length lH, .blk B8 (.cells #[.slice aP r1.R.length aQ, .slice aS r1.L.length aT, .slice aU r1.J.length aV, .slice aW r1.H.length aX, .slice aq r1.Below.length ar] 29 (0, 0))] ++ A) w aW aX r1.H ∧ ISl (Rp.sl (Rp.bool)) (bl [.blk B27 (.cells #[.slice p17 r1.Below.length r1.Below.length] 26 (0, 0)), .row 3 1 p17 r1.Below.length r1.Below.length lH, .blk B8 (.cells #[.slice aP r1.R.length aQ, .slice aS r1.L.length aT, .slice aU r1.J.length aV, .slice aW r1.H.length aX, .slice aq r1.Below.length ar] 29 (0, 0))] ++ A) w aq ar r1.Below ∧ Fr (bl []) w0 (bl [.blk B27 (.cells #[.slice p17 r1.Below.length r1.Below.length] 26 (0, 0)), .row 3 1 p17 r1.Below.length r1.Below.length lH, .blk B8 (.cells #[.slice aP r1.R.length aQ, .slice aS r1.L.length aT, .slice aU r1.J.length aV, .slice aW r1.H.length aX, .slice aq r1.Below.length ar] 29 (0, 0))]) w) H ⟨Cs, ⟨rfl, rfl, rfl, rfl, trivial⟩, hO, oB, aK, aM, aN, aO, ap, hB⟩ ?_
 intro X1
 refine prE fun k1_36 => fun d_37 => ?_
 intro H hX1 σ w35
 refine exE fun lH => andE fun hag => andE fun hO => andE fun lA => andE fun aK => andE fun aM => andE fun aN => andE fun aO => andE fun ap => fun hB => ?_
 dsimp only at H
 refine Go1.keep [(3, .pointer (some ⟨B8, 0, none⟩)), (4, .pointer (some ⟨B27, 0, none⟩)), (15, .int .i64 ((List.replicate r1.Below.length ((0 : Int))).length : Int)), (16, .int .i64 (k1_36 : Int))] hag ?_
 refine Go1.seq ?_
 refine Go1.region ?_
 by_cases h40 : (k1_36 : Int) < ((List.replicate r1.Below.length ((0 : Int))).length : Int)
 ·replace H := ifp h40 H
  refine GoR.op ((fun w => opB (J0w rfl rfl w) (decide_eq_true h40)) _) rfl rfl ?_
  refine GoR.nil ?_
  refine Go1.seq ?_
  refine Go1.condT rfl rfl ?_
  refine Go1.skip ?_
  refine Go1.seq ?_
  refine Go1.block ?_
  refine Go1.seq ?_
  refine Go1.region ?_
  refine GoR.op ((J00 rfl) _) rfl rfl ?_
  refine GoR.op ((J05 rfl) _) rfl rfl ?_
  refine GoR.nil ?_
  refine Go1.region ?_
  refine GoR.op ((oblk (i := 0) 0 hO rfl rfl Try.underlying26 rfl rfl) _ (Same.refl _)) rfl rfl ?_
  refine GoR.op ((J00 rfl) _) rfl rfl ?_
  obtain ⟨h41, H⟩ := H
  obtain ⟨h42, H⟩ := H
  refine GoR.op ((J01 Try.underlying26 ti3 rfl rfl h41 (ltn (lA.neq hO 1 rfl) h42) (lA.psome hO 1 rfl h41 h42)) _) rfl rfl ?_
  have hobt := ost (r := Rp.int .i64) rfl 1 hO rfl lA h41 h42 (v := .int .i64 (-1 : Int)) (u := (-1 : Int)) rfl rfl
  obtain ⟨w43, Ct, bV, Cu, z4⟩ := hobt
  refine GoR.op (z4 Try.underlying3 rfl ti3 (by exact rfl) (by exact rfl)) rfl rfl ?_
  replace hO := bV.own
  replace aK := aK.ch bV.ch
  replace aM := aM.ch bV.ch
  replace aN := aN.ch bV.ch
  replace aO := aO.ch bV.ch
  replace ap := ap.ch bV.ch
  replace hB := hB.trans bV.fr
  refine GoR.nil ?_
  refine Go1.inBlock ?_
  refine Go1.region ?_
  obtain ⟨h48, H⟩ := H
  refine GoR.op ((J06 rfl rfl (wrap_i64 h48)) _) rfl rfl ?_
  refine GoR.op ((J00 rfl) _) rfl rfl ?_
  refine GoR.nil ?_
  exact hX1 _ H _ _ ⟨Ct, ⟨rfl, rfl, rfl, rfl, trivial⟩, hO, Cu, aK, aM, aN, aO, ap, hB⟩
 replace H := ifn h40 H
 refine GoR.op ((fun w => opB (J0w rfl rfl w) (decide_eq_false h40)) _) rfl rfl ?_
 refine GoR.nil ?_
 refine Go1.seq ?_
 refine Go1.condF rfl rfl ?_
 refine Go1.exit rfl ?_
 refine Go1.seq ?_
 refine Go1.region ?_
 have hobt := oalloc (t := 68) (cs := #[.nilFunc]) ti68 hO rfl
 obtain ⟨w49, B50, jl, Gq, nF⟩ := hobt
 refine GoR.op nF rfl rfl ?_
 replace lA := lA.ch jl.ch
 replace hO := jl.own
 replace aK := aK.ch jl.ch
 replace aM := aM.ch jl.ch
 replace aN := aN.ch jl.ch
 replace aO := aO.ch jl.ch
 replace ap := ap.ch jl.ch
 replace hB := hB.trans jl.fr
 refine GoR.nil ?_
 refine Go1.seq ?_
 refine Go1.region ?_
 refine GoR.op ((J4C (vs := [.pointer (some ⟨B27, 0, none⟩), .pointer (some ⟨B8, 0, none⟩), .pointer (some ⟨B50, 0, none⟩)]) rfl) _) rfl rfl ?_
 have hobt := J2W (v := .func (.func 45) #[] #[.pointer (some ⟨B27, 0, none⟩), .pointer (some ⟨B8, 0, none⟩), .pointer (some ⟨B50, 0, none⟩)]) (i := 0) (cs' := #[.func (.func 45) #[] #[.pointer (some ⟨B27, 0, none⟩), .pointer (some ⟨B8, 0, none⟩), .pointer (some ⟨B50, 0, none⟩)]]) 0 hO rfl rfl rfl rfl
 obtain ⟨w55, lV, z5⟩ := hobt
 refine GoR.op (z5 Try.underlying68 rfl ti68 (by exact rfl) (by exact rfl)) rfl rfl ?_
 replace lA := lA.ch lV.ch
 replace hO := lV.own
 replace aK := aK.ch lV.ch
 replace aM := aM.ch lV.ch
 replace aN := aN.ch lV.ch
 replace aO := aO.ch lV.ch
 replace ap := ap.ch lV.ch
 replace hB := hB.trans lV.fr
 refine GoR.nil ?_
 refine Go1.seq ?_
 refine Go1.seq ?_
 refine Go1.region ?_
 refine GoR.op ((oblk (i := 0) 1 hO rfl rfl Try.underlying26 rfl rfl) _ (Same.refl _)) rfl rfl ?_
 refine GoR.op ((J3c Try.underlying26 rfl (lA.neq hO 2 rfl)) _) rfl rfl ?_
 refine GoR.op ((J00 rfl) _) rfl rfl ?_
 refine GoR.nil ?_
 refine Go1.block ?_
 refine Go1.loopW (S := Nat × List Int) (fun s σ w => match s with | (k2_59, d_60) => ∃ (lI : List Value), agrees σ [(4, .pointer (some ⟨B27, 0, none⟩)), (6, .pointer (some ⟨B50, 0, none⟩)), (25, .int .i64 (d_37.length : Int)), (26, .int .i64 (k2_59 : Int))] ∧ Owns w0.heap.size w [.blk B50 (.cells #[.func (.func 45) #[] #[.pointer (some ⟨B27, 0, none⟩), .pointer (some ⟨B8, 0, none⟩), .pointer (some ⟨B50, 0, none⟩)]] 68 (0, 0)), .blk B27 (.cells #[.slice p17 r1.Below.length r1.Below.length] 26 (0, 0)), .row 3 1 p17 r1.Below.length r1.Below.length lI, .blk B8 (.cells #[.slice aP r1.R.length aQ, .slice aS r1.L.length aT, .slice aU r1.J.length aV, .slice aW r1.H.length aX, .slice aq r1.Below.length ar] 29 (0, 0))] A ∧ Els (Rp.int .i64) (bl [.blk B50 (.cells #[.func (.func 45) #[] #[.pointer (some ⟨B27, 0, none⟩), .pointer (some ⟨B8, 0, none⟩), .pointer (some ⟨B50, 0, none⟩)]] 68 (0, 0)), .blk B27 (.cells #[.slice p17 r1.Below.length r1.Below.length] 26 (0, 0)), .row 3 1 p17 r1.Below.length r1.Below.length lI, .blk B8 (.cells #[.slice aP r1.R.length aQ, .slice aS r1.L.length aT, .slice aU r1.J.length aV, .slice aW r1.H.length aX, .slice aq r1.Below.length ar] 29 (0, 0))] ++ A) w lI d_60 ∧ ISl (Rp.int .i64) (bl [.blk B50 (.cells #[.func (.func 45) #[] #[.pointer (some ⟨B27, 0, none⟩), .pointer (some ⟨B8, 0, none⟩), .pointer (some ⟨B50, 0, none⟩)]] 68 (0, 0)), .blk B27 (.cells #[.slice p17 r1.Below.length r1.Below.length] 26 (0, 0)), .row 3 1 p17 r1.Below.length r1.Below.length lI, .blk B8 (.cells #[.slice aP r1.R.length aQ, .slice aS r1.L.length aT, .slice aU r1.J.length aV, .slice aW r1.H.length aX, .slice aq r1.Below.length ar] 29 (0, 0))] ++ A) w aP aQ r1.R ∧ ISl (Rp.int .i64) (bl [.blk B50 (.cells #[.func (.func 45) #[] #[.pointer (some ⟨B27, 0, none⟩), .pointer (some ⟨B8, 0, none⟩), .pointer (some ⟨B50, 0, none⟩)]] 68 (0, 0)), .blk B27 (.cells #[.slice p17 r1.Below.length r1.Below.length] 26 (0, 0)), .row 3 1 p17 r1.Below.length r1.Below.length lI, .blk B8 (.cells #[.slice aP r1.R.length aQ, .slice aS r1.L.length aT, .slice aU r1.J.length aV, .slice aW r1.H.length aX, .slice aq r1.Below.length ar] 29 (0, 0))] ++ A) w aS aT r1.L ∧ ISl (Rp.int .i64) (bl [.blk B50 (.cells #[.func (.func 45) #[] #[.pointer (some ⟨B27, 0, none⟩), .pointer (some ⟨B8, 0, none⟩), .pointer (some ⟨B50, 0, none⟩)]] 68 (0, 0)), .blk B27 (.cells #[.slice p17 r1.Below.length r1.Below.length] 26 (0, 0)), .row 3 1 p17 r1.Below.length r1.Below.length lI, .blk B8 (.cells #[.slice aP r1.R.length aQ, .slice aS r1.L.length aT, .slice aU r1.J.length aV, .slice aW r1.H.length aX, .slice aq r1.Below.length ar] 29 (0, 0))] ++ A) w aU aV r1.J ∧ ISl (Rp.int .i64) (bl [.blk B50 (.cells #[.func (.func 45) #[] #[.pointer (some ⟨B27, 0, none⟩), .pointer (some ⟨B8, 0, none⟩), .pointer (some ⟨B50, 0, none⟩)]] 68 (0, 0)), .blk B27 (.cells #[.slice p17 r1.Below.length r1.Below.length] 26 (0, 0)), .row 3 1 p17 r1.Below.length r1.Below.length lI, .blk B8 (.cells #[.slice aP r1.R.length aQ, .slice aS r1.L.length aT, .slice aU r1.J.length aV, .slice aW r1.H.length aX, .slice aq r1.Below.length ar] 29 (0, 0))] ++ A) w aW aX r1.H ∧ ISl (Rp.sl (Rp.bool)) (bl [.blk B50 (.cells #[.func (.func 45) #[] #[.pointer (some ⟨B27, 0, none⟩), .pointer (some ⟨B8, 0, none⟩), .pointer (some ⟨B50, 0, none⟩)]] 68 (0, 0)), .blk B27 (.cells #[.slice p17 r1.Below.length r1.Below.length] 26 (0, 0)), .row 3 1 p17 r1.Below.length r1.Below.length lI, .blk B8 (.cells #[.slice aP r1.R.length aQ, .slice aS r1.L.length aT, .slice aU r1.J.length aV, .slice aW r1.H.length aX, .slice aq r1.Below.length ar] 29 (0, 0))] ++ A) w aq ar r1.Below ∧ Fr (bl []) w0 (bl [.blk B50 (.cells #[.func (.func 45) #[] #[.pointer (some ⟨B27, 0, none⟩), .pointer (some ⟨B8, 0, none⟩), .pointer (some ⟨B50, 0, none⟩)]] 68 (0, 0)), .blk B27 (.cells #[.slice p17 r1.Below.length r1.Below.length] 26 (0, 0)), .row 3 1 p17 r1.Below.length r1.Below.length lI, .blk B8 (.cells #[.slice aP r1.R.length aQ, .slice aS r1.L.length aT, .slice aU r1.J.length aV, .slice aW r1.H.length aX, .slice aq r1.Below.length ar] 29 (0, 0))]) w) H ⟨lH, ⟨rfl, rfl, rfl, rfl, trivial⟩, hO, lA, aK, aM, aN, aO, ap, hB⟩ ?_
 intro X2
 refine prE fun k2_59 => fun d_60 => ?_
 intro H hX2 σ w58
 refine exE fun lI => andE fun hag => andE fun hO => andE fun rB => andE fun aK => andE fun aM => andE fun aN => andE fun aO => andE fun ap => fun hB => ?_
 dsimp only at H
 refine Go1.keep [(4, .pointer (some ⟨B27, 0, none⟩)), (6, .pointer (some ⟨B50, 0, none⟩)), (25, .int .i64 (d_37.length : Int)), (26, .int .i64 (k2_59 : Int))] hag ?_
 refine Go1.seq ?_
 refine Go1.region ?_
 by_cases h63 : (k2_59 : Int) < (d_37.length : Int)
 ·replace H := ifp h63 H
  refine GoR.op ((fun w => opB (J0w rfl rfl w) (decide_eq_true h63)) _) rfl rfl ?_
  refine GoR.nil ?_
  refine Go1.seq ?_
  refine Go1.condT rfl rfl ?_
  refine Go1.skip ?_
  refine Go1.seq ?_
  refine Go1.block ?_
  refine Go1.seq ?_
  refine Go1.region ?_
  refine GoR.op ((J00 rfl) _) rfl rfl ?_
  refine GoR.op ((J05 rfl) _) rfl rfl ?_
  refine GoR.nil ?_
  refine Go1.region ?_
  refine GoR.op ((oblk (i := 0) 0 hO rfl rfl Try.underlying68 rfl rfl) _ (Same.refl _)) rfl rfl ?_
  refine GoR.op ((J00 rfl) _) rfl rfl ?_
  refine useRec (P := Try.prog) (g := 45) (S := Int × List Int) (T := Int × List Int) (args := [.int .i64 (k2_59 : Int), .pointer (some ⟨B27, 0, none⟩), .pointer (some ⟨B8, 0, none⟩), .pointer (some ⟨B50, 0, none⟩)]) (fun s args w => ∃ (iu : List Value), args = [.int .i64 (s.1), .pointer (some ⟨B27, 0, none⟩), .pointer (some ⟨B8, 0, none⟩), .pointer (some ⟨B50, 0, none⟩)] ∧ Owns w0.heap.size w [.blk B50 (.cells #[.func (.func 45) #[] #[.pointer (some ⟨B27, 0, none⟩), .pointer (some ⟨B8, 0, none⟩), .pointer (some ⟨B50, 0, none⟩)]] 68 (0, 0)), .blk B27 (.cells #[.slice p17 r1.Below.length r1.Below.length] 26 (0, 0)), .row 3 1 p17 r1.Below.length r1.Below.length iu, .blk B8 (.cells #[.slice aP r1.R.length aQ, .slice aS r1.L.length aT, .slice aU r1.J.length aV, .slice aW r1.H.length aX, .slice aq r1.Below.length ar] 29 (0, 0))] A ∧ Els (Rp.int .i64) (bl [.blk B50 (.cells #[.func (.func 45) #[] #[.pointer (some ⟨B27, 0, none⟩), .pointer (some ⟨B8, 0, none⟩), .pointer (some ⟨B50, 0, none⟩)]] 68 (0, 0)), .blk B27 (.cells #[.slice p17 r1.Below.length r1.Below.length] 26 (0, 0)), .row 3 1 p17 r1.Below.length r1.Below.length iu, .blk B8 (.cells #[.slice aP r1.R.length aQ, .slice aS r1.L.length aT, .slice aU r1.J.length aV, .slice aW r1.H.length aX, .slice aq r1.Below.length ar] 29 (0, 0))] ++ A) w iu (s.2) ∧ ISl (Rp.int .i64) (bl [.blk B50 (.cells #[.func (.func 45) #[] #[.pointer (some ⟨B27, 0, none⟩), .pointer (some ⟨B8, 0, none⟩), .pointer (some ⟨B50, 0, none⟩)]] 68 (0, 0)), .blk B27 (.cells #[.slice p17 r1.Below.length r1.Below.length] 26 (0, 0)), .row 3 1 p17 r1.Below.length r1.Below.length iu, .blk B8 (.cells #[.slice aP r1.R.length aQ, .slice aS r1.L.length aT, .slice aU r1.J.length aV, .slice aW r1.H.length aX, .slice aq r1.Below.length ar] 29 (0, 0))] ++ A) w aP aQ r1.R ∧ ISl (Rp.int .i64) (bl [.blk B50 (.cells #[.func (.func 45) #[] #[.pointer (some ⟨B27, 0, none⟩), .pointer (some ⟨B8, 0, none⟩), .pointer (some ⟨B50, 0, none⟩)]] 68 (0, 0)), .blk B27 (.cells #[.slice p17 r1.Below.length r1.Below.length] 26 (0, 0)), .row 3 1 p17 r1.Below.length r1.Below.length iu, .blk B8 (.cells #[.slice aP r1.R.length aQ, .slice aS r1.L.length aT, .slice aU r1.J.length aV, .slice aW r1.H.length aX, .slice aq r1.Below.length ar] 29 (0, 0))] ++ A) w aS aT r1.L ∧ ISl (Rp.int .i64) (bl [.blk B50 (.cells #[.func (.func 45) #[] #[.pointer (some ⟨B27, 0, none⟩), .pointer (some ⟨B8, 0, none⟩), .pointer (some ⟨B50, 0, none⟩)]] 68 (0, 0)), .blk B27 (.cells #[.slice p17 r1.Below.length r1.Below.length] 26 (0, 0)), .row 3 1 p17 r1.Below.length r1.Below.length iu, .blk B8 (.cells #[.slice aP r1.R.length aQ, .slice aS r1.L.length aT, .slice aU r1.J.length aV, .slice aW r1.H.length aX, .slice aq r1.Below.length ar] 29 (0, 0))] ++ A) w aU aV r1.J ∧ ISl (Rp.int .i64) (bl [.blk B50 (.cells #[.func (.func 45) #[] #[.pointer (some ⟨B27, 0, none⟩), .pointer (some ⟨B8, 0, none⟩), .pointer (some ⟨B50, 0, none⟩)]] 68 (0, 0)), .blk B27 (.cells #[.slice p17 r1.Below.length r1.Below.length] 26 (0, 0)), .row 3 1 p17 r1.Below.length r1.Below.length iu, .blk B8 (.cells #[.slice aP r1.R.length aQ, .slice aS r1.L.length aT, .slice aU r1.J.length aV, .slice aW r1.H.length aX, .slice aq r1.Below.length ar] 29 (0, 0))] ++ A) w aW aX r1.H ∧ ISl (Rp.sl (Rp.bool)) (bl [.blk B50 (.cells #[.func (.func 45) #[] #[.pointer (some ⟨B27, 0, none⟩), .pointer (some ⟨B8, 0, none⟩), .pointer (some ⟨B50, 0, none⟩)]] 68 (0, 0)), .blk B27 (.cells #[.slice p17 r1.Below.length r1.Below.length] 26 (0, 0)), .row 3 1 p17 r1.Below.length r1.Below.length iu, .blk B8 (.cells #[.slice aP r1.R.length aQ, .slice aS r1.L.length aT, .slice aU r1.J.length aV, .slice aW r1.H.length aX, .slice aq r1.Below.length ar] 29 (0, 0))] ++ A) w aq ar r1.Below) (fun we t v w => ∃ (iu : List Value), v = .int .i64 (t.1) ∧ Owns w0.heap.size w [.blk B50 (.cells #[.func (.func 45) #[] #[.pointer (some ⟨B27, 0, none⟩), .pointer (some ⟨B8, 0, none⟩), .pointer (some ⟨B50, 0, none⟩)]] 68 (0, 0)), .blk B27 (.cells #[.slice p17 r1.Below.length r1.Below.length] 26 (0, 0)), .row 3 1 p17 r1.Below.length r1.Below.length iu, .blk B8 (.cells #[.slice aP r1.R.length aQ, .slice aS r1.L.length aT, .slice aU r1.J.length aV, .slice aW r1.H.length aX, .slice aq r1.Below.length ar] 29 (0, 0))] A ∧ Els (Rp.int .i64) (bl [.blk B50 (.cells #[.func (.func 45) #[] #[.pointer (some ⟨B27, 0, none⟩), .pointer (some ⟨B8, 0, none⟩), .pointer (some ⟨B50, 0, none⟩)]] 68 (0, 0)), .blk B27 (.cells #[.slice p17 r1.Below.length r1.Below.length] 26 (0, 0)), .row 3 1 p17 r1.Below.length r1.Below.length iu, .blk B8 (.cells #[.slice aP r1.R.length aQ, .slice aS r1.L.length aT, .slice aU r1.J.length aV, .slice aW r1.H.length aX, .slice aq r1.Below.length ar] 29 (0, 0))] ++ A) w iu (t.2) ∧ Fr (bl [.blk B50 (.cells #[.func (.func 45) #[] #[.pointer (some ⟨B27, 0, none⟩), .pointer (some ⟨B8, 0, none⟩), .pointer (some ⟨B50, 0, none⟩)]] 68 (0, 0)), .blk B27 (.cells #[.slice p17 r1.Below.length r1.Below.length] 26 (0, 0)), .row 3 1 p17 r1.Below.length r1.Below.length iu, .blk B8 (.cells #[.slice aP r1.R.length aQ, .slice aS r1.L.length aT, .slice aU r1.J.length aV, .slice aW r1.H.length aX, .slice aq r1.Below.length ar] 29 (0, 0))]) we (bl [.blk B50 (.cells #[.func (.func 45) #[] #[.pointer (some ⟨B27, 0, none⟩), .pointer (some ⟨B8, 0, none⟩), .pointer (some ⟨B50, 0, none⟩)]] 68 (0, 0)), .blk B27 (.cells #[.slice p17 r1.Below.length r1.Below.length] 26 (0, 0)), .row 3 1 p17 r1.Below.length r1.Below.length iu, .blk B8 (.cells #[.slice aP r1.R.length aQ, .slice aS r1.L.length aT, .slice aU r1.J.length aV, .slice aW r1.H.length aX, .slice aq r1.Below.length ar] 29 (0, 0))]) w) ⟨lI, rfl, hO, rB, aK, aM, aN, aO, ap⟩ H ?_ ?_
  ·rintro X3 hX3 ⟨i3_64, d3_65⟩ KR3 args w68 H ⟨iu, rfl, hO, lY, aK, aM, aN, aO, ap⟩
   dsimp only at H
   refine CallsV.of (l := [.int .i64 i3_64, .pointer (some ⟨B27, 0, none⟩), .pointer (some ⟨B8, 0, none⟩), .pointer (some ⟨B50, 0, none⟩)]) Try.func45 rfl Try.ntmps45 rfl ?_
   have hB := Fr.refl (bl [.blk B50 (.cells #[.func (.func 45) #[] #[.pointer (some ⟨B27, 0, none⟩), .pointer (some ⟨B8, 0, none⟩), .pointer (some ⟨B50, 0, none⟩)]] 68 (0, 0)), .blk B27 (.cells #[.slice p17 r1.Below.length r1.Below.length] 26 (0, 0)), .row 3 1 p17 r1.Below.length r1.Below.length iu, .blk B8 (.cells #[.slice aP r1.R.length aQ, .slice aS r1.L.length aT, .slice aU r1.J.length aV, .slice aW r1.H.length aX, .slice aq r1.Below.length ar] 29 (0, 0))]) w68
   refine Go1.seq ?_
   refine Go1.region ?_
   refine GoR.op ((J05 rfl) _) rfl rfl ?_
   refine GoR.nil ?_
   refine Go1.seq ?_
   refine Go1.seq ?_
   refine Go1.region ?_
   refine GoR.op ((oblk (i := 0) 1 hO rfl rfl Try.underlying26 rfl rfl) _ (Same.refl _)) rfl rfl ?_
   refine GoR.op ((J00 rfl) _) rfl rfl ?_
   obtain ⟨h69, H⟩ := H
   obtain ⟨h70, H⟩ := H
   refine GoR.op ((J01 Try.underlying26 ti3 rfl rfl h69 (ltn (lY.neq hO 2 rfl) h70) (lY.psome hO 2 rfl h69 h70)) _) rfl rfl ?_
   refine GoR.op ((oldInt 2 hO rfl lY h69 h70 Try.underlying3 rfl rfl) _ (Same.refl _)) rfl rfl ?_
   by_cases h71 : (ix d3_65 i3_64) < (0 : Int)
   ·replace H := ifp h71 H
    refine GoR.op ((fun w => opB (J0w rfl rfl w) (decide_eq_true h71)) _) rfl rfl ?_
    refine GoR.nil ?_
    refine Go1.condT rfl rfl ?_
    refine Go1.seq ?_
    refine Go1.region ?_
    refine GoR.op ((oblk (i := 0) 1 hO rfl rfl Try.underlying26 rfl rfl) _ (Same.refl _)) rfl rfl ?_
    refine GoR.op ((J00 rfl) _) rfl rfl ?_
    obtain ⟨h72, H⟩ := H
    obtain ⟨h73, H⟩ := H
    refine GoR.op ((J01 Try.underlying26 ti3 rfl rfl h72 (ltn (lY.neq hO 2 rfl) h73) (lY.psome hO 2 rfl h72 h73)) _) rfl rfl ?_
    have hobt := ost (r := Rp.int .i64) rfl 2 hO rfl lY h72 h73 (v := .int .i64 (0 : Int)) (u := (0 : Int)) rfl rfl
    obtain ⟨w74, Cv, mC, Cw, z6⟩ := hobt
    refine GoR.op (z6 Try.underlying3 rfl ti3 (by exact rfl) (by exact rfl)) rfl rfl ?_
    replace hO := mC.own
    replace aK := aK.ch mC.ch
    replace aM := aM.ch mC.ch
    replace aN := aN.ch mC.ch
    replace aO := aO.ch mC.ch
    replace ap := ap.ch mC.ch
    replace hB := hB.trans mC.fr
    refine GoR.nil ?_
    refine Go1.seq ?_
    refine Go1.region ?_
    refine GoR.op ((J03 Try.underlying29 rfl ti27 rfl (by decide)) _) rfl rfl ?_
    refine GoR.op ((oblk (i := 4) 3 hO rfl rfl Try.underlying27 rfl rfl) _ (Same.refl _)) rfl rfl ?_
    refine GoR.op ((J00 rfl) _) rfl rfl ?_
    obtain ⟨h79, H⟩ := H
    obtain ⟨h80, H⟩ := H
    refine GoR.op ((J01 Try.underlying27 ti42 rfl rfl h79 h80 (ap.some_ h79 h80)) _) rfl rfl ?_
    have hobt := ldSl ap h79 h80
    obtain ⟨p81, c82, bU, Cx⟩ := hobt
    refine GoR.op ((Cx Try.underlying42 rfl rfl) _ (Same.refl _)) rfl rfl ?_
    refine GoR.op ((J2G Try.underlying42 rfl) _) rfl rfl ?_
    replace H := H bU.bd
    refine GoR.op ((J00 rfl) _) rfl rfl ?_
    refine GoR.nil ?_
    refine Go1.block ?_
    refine Go1.loopW (S := Nat × List Int) (fun s σ w => match s with | (k4_86, d_87) => ∃ (kc : List Value), agrees σ [(0, .int .i64 i3_64), (1, .pointer (some ⟨B27, 0, none⟩)), (3, .pointer (some ⟨B50, 0, none⟩)), (20, .slice p81 ((ix r1.Below i3_64).length) c82), (21, .int .i64 ((ix r1.Below i3_64).length : Int)), (22, .int .i64 (k4_86 : Int))] ∧ Owns w0.heap.size w [.blk B50 (.cells #[.func (.func 45) #[] #[.pointer (some ⟨B27, 0, none⟩), .pointer (some ⟨B8, 0, none⟩), .pointer (some ⟨B50, 0, none⟩)]] 68 (0, 0)), .blk B27 (.cells #[.slice p17 r1.Below.length r1.Below.length] 26 (0, 0)), .row 3 1 p17 r1.Below.length r1.Below.length kc, .blk B8 (.cells #[.slice aP r1.R.length aQ, .slice aS r1.L.length aT, .slice aU r1.J.length aV, .slice aW r1.H.length aX, .slice aq r1.Below.length ar] 29 (0, 0))] A ∧ Els (Rp.int .i64) (bl [.blk B50 (.cells #[.func (.func 45) #[] #[.pointer (some ⟨B27, 0, none⟩), .pointer (some ⟨B8, 0, none⟩), .pointer (some ⟨B50, 0, none⟩)]] 68 (0, 0)), .blk B27 (.cells #[.slice p17 r1.Below.length r1.Below.length] 26 (0, 0)), .row 3 1 p17 r1.Below.length r1.Below.length kc, .blk B8 (.cells #[.slice aP r1.R.length aQ, .slice aS r1.L.length aT, .slice aU r1.J.length aV, .slice aW r1.H.length aX, .slice aq r1.Below.length ar] 29 (0, 0))] ++ A) w kc d_87 ∧ ISl (Rp.int .i64) (bl [.blk B50 (.cells #[.func (.func 45) #[] #[.pointer (some ⟨B27, 0, none⟩), .pointer (some ⟨B8, 0, none⟩), .pointer (some ⟨B50, 0, none⟩)]] 68 (0, 0)), .blk B27 (.cells #[.slice p17 r1.Below.length r1.Below.length] 26 (0, 0)), .row 3 1 p17 r1.Below.length r1.Below.length kc, .blk B8 (.cells #[.slice aP r1.R.length aQ, .slice aS r1.L.length aT, .slice aU r1.J.length aV, .slice aW r1.H.length aX, .slice aq r1.Below.length ar] 29 (0, 0))] ++ A) w aP aQ r1.R ∧ ISl (Rp.int .i64) (bl [.blk B50 (.cells #[.func (.func 45) #[] #[.pointer (some ⟨B27, 0, none⟩), .pointer (some ⟨B8, 0, none⟩), .pointer (some ⟨B50, 0, none⟩)]] 68 (0, 0)), .blk B27 (.cells #[.slice p17 r1.Below.length r1.Below.length] 26 (0, 0)), .row 3 1 p17 r1.Below.length r1.Below.length kc, .blk B8 (.cells #[.slice aP r1.R.length aQ, .slice aS r1.L.length aT, .slice aU r1.J.length aV, .slice aW r1.H.length aX, .slice aq r1.Below.length ar] 29 (0, 0))] ++ A) w aS aT r1.L ∧ ISl (Rp.int .i64) (bl [.blk B50 (.cells #[.func (.func 45) #[] #[.pointer (some ⟨B27, 0, none⟩), .pointer (some ⟨B8, 0, none⟩), .pointer (some ⟨B50, 0, none⟩)]] 68 (0, 0)), .blk B27 (.cells #[.slice p17 r1.Below.length r1.Below.length] 26 (0, 0)), .row 3 1 p17 r1.Below.length r1.Below.length kc, .blk B8 (.cells #[.slice aP r1.R.length aQ, .slice aS r1.L.length aT, .slice aU r1.J.length aV, .slice aW r1.H.length aX, .slice aq r1.Below.length ar] 29 (0, 0))] ++ A) w aU aV r1.J ∧ ISl (Rp.int .i64) (bl [.blk B50 (.cells #[.func (.func 45) #[] #[.pointer (some ⟨B27, 0, none⟩), .pointer (some ⟨B8, 0, none⟩), .pointer (some ⟨B50, 0, none⟩)]] 68 (0, 0)), .blk B27 (.cells #[.slice p17 r1.Below.length r1.Below.length] 26 (0, 0)), .row 3 1 p17 r1.Below.length r1.Below.length kc, .blk B8 (.cells #[.slice aP r1.R.length aQ, .slice aS r1.L.length aT, .slice aU r1.J.length aV, .slice aW r1.H.length aX, .slice aq r1.Below.length ar] 29 (0, 0))] ++ A) w aW aX r1.H ∧ ISl (Rp.sl (Rp.bool)) (bl [.blk B50 (.cells #[.func (.func 45) #[] #[.pointer (some ⟨B27, 0, none⟩), .pointer (some ⟨B8, 0, none⟩), .pointer (some ⟨B50, 0, none⟩)]] 68 (0, 0)), .blk B27 (.cells #[.slice p17 r1.Below.length r1.Below.length] 26 (0, 0)), .row 3 1 p17 r1.Below.length r1.Below.length kc, .blk B8 (.cells #[.slice aP r1.R.length aQ, .slice aS r1.L.length aT, .slice aU r1.J.length aV, .slice aW r1.H.length aX, .slice aq r1.Below.length ar] 29 (0, 0))] ++ A) w aq ar r1.Below ∧ ISl (Rp.bool) (bl [.blk B50 (.cells #[.func (.func 45) #[] #[.pointer (some ⟨B27, 0, none⟩), .pointer (some ⟨B8, 0, none⟩), .pointer (some ⟨B50, 0, none⟩)]] 68 (0, 0)), .blk B27 (.cells #[.slice p17 r1.Below.length r1.Below.length] 26 (0, 0)), .row 3 1 p17 r1.Below.length r1.Below.length kc, .blk B8 (.cells #[.slice aP r1.R.length aQ, .slice aS r1.L.length aT, .slice aU r1.J.length aV, .slice aW r1.H.length aX, .slice aq r1.Below.length ar] 29 (0, 0))] ++ A) w p81 c82 (ix r1.Below i3_64) ∧ Fr (bl [.blk B50 (.cells #[.func (.func 45) #[] #[.pointer (some ⟨B27, 0, none⟩), .pointer (some ⟨B8, 0, none⟩), .pointer (some ⟨B50, 0, none⟩)]] 68 (0, 0)), .blk B27 (.cells #[.slice p17 r1.Below.length r1.Below.length] 26 (0, 0)), .row 3 1 p17 r1.Below.length r1.Below.length iu, .blk B8 (.cells #[.slice aP r1.R.length aQ, .slice aS r1.L.length aT, .slice aU r1.J.length aV, .slice aW r1.H.length aX, .slice aq r1.Below.length ar] 29 (0, 0))]) w68 (bl [.blk B50 (.cells #[.func (.func 45) #[] #[.pointer (some ⟨B27, 0, none⟩), .pointer (some ⟨B8, 0, none⟩), .pointer (some ⟨B50, 0, none⟩)]] 68 (0, 0)), .blk B27 (.cells #[.slice p17 r1.Below.length r1.Below.length] 26 (0, 0)), .row 3 1 p17 r1.Below.length r1.Below.length kc, .blk B8 (.cells #[.slice aP r1.R.length aQ, .slice aS r1.L.length aT, .slice aU r1.J.length aV, .slice aW r1.H.length aX, .slice aq r1.Below.length ar] 29 (0, 0))]) w) H ⟨Cv, ⟨rfl, rfl, rfl, rfl, rfl, rfl, trivial⟩, hO, Cw, aK, aM, aN, aO, ap, bU, hB⟩ ?_
    intro X4
    refine prE fun k4_86 => fun d_87 => ?_
    intro H hX4 σ w85
    refine exE fun kc => andE fun hag => andE fun hO => andE fun bX => andE fun aK => andE fun aM => andE fun aN => andE fun aO => andE fun ap => andE fun bU => fun hB => ?_
    dsimp only at H
    refine Go1.keep [(0, .int .i64 i3_64), (1, .pointer (some ⟨B27, 0, none⟩)), (3, .pointer (some ⟨B50, 0, none⟩)), (20, .slice p81 ((ix r1.Below i3_64).length) c82), (21, .int .i64 ((ix r1.Below i3_64).length : Int)), (22, .int .i64 (k4_86 : Int))] hag ?_
    refine Go1.seq ?_
    refine Go1.region ?_
    by_cases h90 : (k4_86 : Int) < ((ix r1.Below i3_64).length : Int)
    ·replace H := ifp h90 H
     refine GoR.op ((fun w => opB (J0w rfl rfl w) (decide_eq_true h90)) _) rfl rfl ?_
     refine GoR.nil ?_
     refine Go1.seq ?_
     refine Go1.condT rfl rfl ?_
     refine Go1.skip ?_
     refine Go1.seq ?_
     refine Go1.block ?_
     refine Go1.seq ?_
     refine Go1.region ?_
     refine GoR.op ((J00 rfl) _) rfl rfl ?_
     obtain ⟨h91, H⟩ := H
     obtain ⟨h92, H⟩ := H
     refine GoR.op ((J01 Try.underlying42 ti4 rfl rfl h91 h92 (bU.some_ h91 h92)) _) rfl rfl ?_
     by_cases h93 : ix (ix r1.Below i3_64) (k4_86 : Int) = true
     ·replace H := ifp h93 H
      refine GoR.op (opB ((ldBool bU h91 h92 Try.underlying4 rfl rfl) _ (Same.refl _)) (h93)) rfl rfl ?_
      refine GoR.op ((J05 rfl) _) rfl rfl ?_
      refine GoR.op ((J05 rfl) _) rfl rfl ?_
      refine GoR.nil ?_
      refine Go1.seq ?_
      refine Go1.region ?_
      refine GoR.op ((J00 rfl) _) rfl rfl ?_
      refine GoR.op ((J00 rfl) _) rfl rfl ?_
      refine GoR.op ((J00 rfl) _) rfl rfl ?_
      refine GoR.op ((J00 rfl) _) rfl rfl ?_
      by_cases h94 : (k4_86 : Int) = i3_64
      ·replace H := ifp h94 H
       refine GoR.op ((fun w => opB (J4d rfl rfl w) (ndT h94)) _) rfl rfl ?_
       refine GoR.op ((J1J rfl rfl rfl) _) rfl rfl ?_
       refine GoR.nil ?_
       refine Go1.condF rfl rfl ?_
       refine Go1.skip ?_
       refine Go1.inBlock ?_
       refine Go1.region ?_
       refine GoR.op ((J06 rfl rfl (wrap_i64 (natbd h90 bU.bd))) _) rfl rfl ?_
       refine GoR.op ((J00 rfl) _) rfl rfl ?_
       refine GoR.nil ?_
       exact hX4 _ H _ _ ⟨kc, ⟨rfl, rfl, rfl, rfl, rfl, rfl, trivial⟩, hO, bX, aK, aM, aN, aO, ap, bU, hB⟩
      replace H := ifn h94 H
      refine GoR.op ((fun w => opB (J4d rfl rfl w) (ndF h94)) _) rfl rfl ?_
      refine GoR.op ((J1J rfl rfl rfl) _) rfl rfl ?_
      refine GoR.nil ?_
      refine Go1.condT rfl rfl ?_
      refine Go1.drawRS [(some ⟨B27, 0, none⟩), (padd p17 (i3_64.toNat * 1)), (some ⟨B50, 0, none⟩)] 1 [(0, .stable), (1, .pure), (2, .stable), (3, .pure), (4, .pure), (5, .stable), (6, .stable), (7, .pure), (8, .loud), (9, .pure), (10, .pure), (11, .pure), (12, .last)] mixed (by kernel_rfl) ?_
      intro w95 Cy
      have lD := Stp.same hO Cy
      replace bX := bX.ch lD.ch
      replace hO := lD.own
      replace aK := aK.ch lD.ch
      replace aM := aM.ch lD.ch
      replace aN := aN.ch lD.ch
      replace aO := aO.ch lD.ch
      replace ap := ap.ch lD.ch
      replace bU := bU.ch lD.ch
      replace hB := hB.trans lD.fr
      refine GoQR.stable rfl (loadR (.head _) rfl (J0h 1 hO rfl rfl) Try.underlying26 rfl rfl) rfl rfl ?_
      refine GoQR.pure rfl (J00 rfl) rfl rfl ?_
      refine GoQR.stable rfl (loadR (.head _) rfl (J0h 1 hO rfl rfl) Try.underlying26 rfl rfl) rfl rfl ?_
      refine GoQR.pure rfl (J00 rfl) rfl rfl ?_
      obtain ⟨h98, H⟩ := H
      obtain ⟨h99, H⟩ := H
      refine GoQR.pure rfl (J01 Try.underlying26 ti3 rfl rfl h98 (ltn (bX.neq hO 2 rfl) h99) (bX.psome hO 2 rfl h98 h99)) rfl rfl ?_
      refine GoQR.stable rfl (loadR (.tail _ (.head _)) (J6C (bX.psome hO 2 rfl h98 h99)) (rowCellInt 2 hO rfl bX h98 h99) Try.underlying3 rfl rfl) rfl rfl ?_
      refine GoQR.stable rfl (loadR (.tail _ (.tail _ (.head _))) rfl (J0h 0 hO rfl rfl) Try.underlying68 rfl rfl) rfl rfl ?_
      refine GoQR.pure rfl (J00 rfl) rfl rfl ?_
      refine GoQR.call rfl (J3R (vs := [.int .i64 (k4_86 : Int)]) (caps := [.pointer (some ⟨B27, 0, none⟩), .pointer (some ⟨B8, 0, none⟩), .pointer (some ⟨B50, 0, none⟩)]) body45 rfl rfl (hX3 ((k4_86 : Int), d_87) _ _ _ H ⟨kc, rfl, hO, bX, aK, aM, aN, aO, ap⟩)) (fun v w hr => by obtain ⟨⟨r102, d103⟩, ⟨z7, rfl, hO9, z8, hF9⟩, H9⟩ := hr; dsimp only at H9; obtain ⟨kk1, kl1, H9⟩ := H9; exact (CS.cons (cs_eq (J0h 1 hO rfl rfl) (J0h 1 hO9 rfl rfl)) (CS.cons (cs_eq (rowCellInt 2 hO rfl bX h98 h99) (by rw [← kk1]; exact rowCellInt 2 hO9 rfl z8 h98 kl1)) (CS.cons (cs_eq (J0h 0 hO rfl rfl) (J0h 0 hO9 rfl rfl)) (CS.nil _ _))))) rfl rfl ?_
      rintro Gr Az ⟨⟨r102, d103⟩, ⟨z7, rfl, hO, bX, hF⟩, H⟩
      dsimp only at H
      replace aK := aK.ch (hF.ch.app A)
      replace aM := aM.ch (hF.ch.app A)
      replace aN := aN.ch (hF.ch.app A)
      replace aO := aO.ch (hF.ch.app A)
      replace ap := ap.ch (hF.ch.app A)
      replace bU := bU.ch (hF.ch.app A)
      replace hB := hB.trans hF
      obtain ⟨kk1, kl1, H⟩ := H
      obtain ⟨vm, H⟩ := H
      refine GoQR.pure rfl (J06 rfl rfl (wrap_i64 vm)) rfl rfl ?_
      by_cases lm : (ix d_87 i3_64) < ((1 : Int) + r102)
      ·replace H := ifp lm H
       refine GoQR.pure rfl (J5S rfl rfl lm) rfl rfl ?_
       obtain ⟨nU, H⟩ := H
       obtain ⟨rq, H⟩ := H
       refine GoQR.pure rfl (J01 Try.underlying26 ti3 rfl rfl nU (ltn (bX.neq hO 2 rfl) rq) (bX.psome hO 2 rfl nU rq)) rfl rfl ?_
       have hobt := ost (r := Rp.int .i64) rfl 2 hO rfl bX nU rq (v := .int .i64 ((1 : Int) + r102)) (u := ((1 : Int) + r102)) rfl rfl
       obtain ⟨Gs, z9, lj, Aa, wO⟩ := hobt
       refine GoQR.last rfl (wO Try.underlying3 rfl ti3 (by exact rfl) (by exact rfl)) rfl rfl ?_
       replace hO := lj.own
       replace aK := aK.ch lj.ch
       replace aM := aM.ch lj.ch
       replace aN := aN.ch lj.ch
       replace aO := aO.ch lj.ch
       replace ap := ap.ch lj.ch
       replace bU := bU.ch lj.ch
       replace hB := hB.trans lj.fr
       refine GoQR.nil ?_
       refine Go1.inBlock ?_
       refine Go1.region ?_
       refine GoR.op ((J06 rfl rfl (wrap_i64 (natbd h90 bU.bd))) _) rfl rfl ?_
       refine GoR.op ((J00 rfl) _) rfl rfl ?_
       refine GoR.nil ?_
       exact hX4 _ H _ _ ⟨z9, ⟨rfl, rfl, rfl, rfl, rfl, rfl, trivial⟩, hO, Aa, aK, aM, aN, aO, ap, bU, hB⟩
      replace H := ifn lm H
      refine GoQR.pure rfl (J5Q rfl rfl lm) rfl rfl ?_
      obtain ⟨pI, H⟩ := H
      obtain ⟨uM, H⟩ := H
      refine GoQR.pure rfl (J01 Try.underlying26 ti3 rfl rfl pI (ltn (bX.neq hO 2 rfl) uM) (bX.psome hO 2 rfl pI uM)) rfl rfl ?_
      have hobt := ost (r := Rp.int .i64) rfl 2 hO rfl bX pI uM (v := .int .i64 (ix d_87 i3_64)) (u := (ix d_87 i3_64)) rfl rfl
      obtain ⟨AA, Ab, lk, Ac, o6⟩ := hobt
      refine GoQR.last rfl (o6 Try.underlying3 rfl ti3 (by exact rfl) (by exact rfl)) rfl rfl ?_
      replace hO := lk.own
      replace aK := aK.ch lk.ch
      replace aM := aM.ch lk.ch
      replace aN := aN.ch lk.ch
      replace aO := aO.ch lk.ch
      replace ap := ap.ch lk.ch
      replace bU := bU.ch lk.ch
      replace hB := hB.trans lk.fr
      refine GoQR.nil ?_
      refine Go1.inBlock ?_
      refine Go1.region ?_
      refine GoR.op ((J06 rfl rfl (wrap_i64 (natbd h90 bU.bd))) _) rfl rfl ?_
      refine GoR.op ((J00 rfl) _) rfl rfl ?_
      refine GoR.nil ?_
      exact hX4 _ H _ _ ⟨Ab, ⟨rfl, rfl, rfl, rfl, rfl, rfl, trivial⟩, hO, Ac, aK, aM, aN, aO, ap, bU, hB⟩
     replace H := ifn h93 H
     refine GoR.op (opB ((ldBool bU h91 h92 Try.underlying4 rfl rfl) _ (Same.refl _)) (Bool.eq_false_iff.2 h93)) rfl rfl ?_
     refine GoR.op ((J05 rfl) _) rfl rfl ?_
     refine GoR.op ((J05 rfl) _) rfl rfl ?_
     refine GoR.nil ?_
     refine Go1.seq ?_
     refine Go1.region ?_
     refine GoR.op ((J00 rfl) _) rfl rfl ?_
     refine GoR.op ((J00 rfl) _) rfl rfl ?_
     refine GoR.pass rfl rfl ?_
     refine GoR.pass rfl rfl ?_
     refine GoR.pass rfl rfl ?_
     refine GoR.op ((J0p rfl rfl rfl) _) rfl rfl ?_
     refine GoR.nil ?_
     refine Go1.condF rfl rfl ?_
     refine Go1.skip ?_
     refine Go1.inBlock ?_
     refine Go1.region ?_
     refine GoR.op ((J06 rfl rfl (wrap_i64 (natbd h90 bU.bd))) _) rfl rfl ?_
     refine GoR.op ((J00 rfl) _) rfl rfl ?_
     refine GoR.nil ?_
     exact hX4 _ H _ _ ⟨kc, ⟨rfl, rfl, rfl, rfl, rfl, rfl, trivial⟩, hO, bX, aK, aM, aN, aO, ap, bU, hB⟩
    replace H := ifn h90 H
    refine GoR.op ((fun w => opB (J0w rfl rfl w) (decide_eq_false h90)) _) rfl rfl ?_
    refine GoR.nil ?_
    refine Go1.seq ?_
    refine Go1.condF rfl rfl ?_
    refine Go1.exit rfl ?_
    refine Go1.seq ?_
    refine Go1.region ?_
    refine GoR.op ((oblk (i := 0) 1 hO rfl rfl Try.underlying26 rfl rfl) _ (Same.refl _)) rfl rfl ?_
    refine GoR.op ((J00 rfl) _) rfl rfl ?_
    obtain ⟨oU, H⟩ := H
    obtain ⟨oV, H⟩ := H
    refine GoR.op ((J01 Try.underlying26 ti3 rfl rfl oU (ltn (bX.neq hO 2 rfl) oV) (bX.psome hO 2 rfl oU oV)) _) rfl rfl ?_
    refine GoR.op ((oldInt 2 hO rfl bX oU oV Try.underlying3 rfl rfl) _ (Same.refl _)) rfl rfl ?_
    refine GoR.op ((J05 rfl) _) rfl rfl ?_
    refine GoR.nil ?_
    refine Go1.ret1 Try.func45 rfl ?_
    exact ⟨((ix d_87 i3_64), d_87), ⟨kc, rfl, hO, bX, hB⟩, H⟩
   replace H := ifn h71 H
   refine GoR.op ((fun w => opB (J0w rfl rfl w) (decide_eq_false h71)) _) rfl rfl ?_
   refine GoR.nil ?_
   refine Go1.condF rfl rfl ?_
   refine Go1.skip ?_
   refine Go1.seq ?_
   refine Go1.region ?_
   refine GoR.op ((oblk (i := 0) 1 hO rfl rfl Try.underlying26 rfl rfl) _ (Same.refl _)) rfl rfl ?_
   refine GoR.op ((J00 rfl) _) rfl rfl ?_
   obtain ⟨nV, H⟩ := H
   obtain ⟨nW, H⟩ := H
   refine GoR.op ((J01 Try.underlying26 ti3 rfl rfl nV (ltn (lY.neq hO 2 rfl) nW) (lY.psome hO 2 rfl nV nW)) _) rfl rfl ?_
   refine GoR.op ((oldInt 2 hO rfl lY nV nW Try.underlying3 rfl rfl) _ (Same.refl _)) rfl rfl ?_
   refine GoR.op ((J05 rfl) _) rfl rfl ?_
   refine GoR.nil ?_
   refine Go1.ret1 Try.func45 rfl ?_
   exact ⟨((ix d3_65 i3_64), d3_65), ⟨iu, rfl, hO, lY, hB⟩, H⟩
  ·intro hrec3
   refine GoR.call (J3R (vs := [.int .i64 (k2_59 : Int)]) (caps := [.pointer (some ⟨B27, 0, none⟩), .pointer (some ⟨B8, 0, none⟩), .pointer (some ⟨B50, 0, none⟩)]) body45 rfl rfl hrec3) rfl rfl ?_
   rintro Gt AB ⟨⟨r127, d128⟩, ⟨Ad, rfl, hO, rB, hF⟩, H⟩
   dsimp only at H
   replace aK := aK.ch (hF.ch.app A)
   replace aM := aM.ch (hF.ch.app A)
   replace aN := aN.ch (hF.ch.app A)
   replace aO := aO.ch (hF.ch.app A)
   replace ap := ap.ch (hF.ch.app A)
   replace hB := hB.trans hF
   refine GoR.nil ?_
   refine Go1.inBlock ?_
   refine Go1.cut [(4, .pointer (some ⟨B27, 0, none⟩)), (6, .pointer (some ⟨B50, 0, none⟩)), (25, .int .i64 (d_37.length : Int)), (26, .int .i64 (k2_59 : Int))] ⟨rfl, rfl, rfl, rfl, trivial⟩ ?_
   intro σ _
   refine Go1.region ?_
   obtain ⟨Cz, H⟩ := H
   refine GoR.op ((J06 rfl rfl (wrap_i64 Cz)) _) rfl rfl ?_
   refine GoR.op ((J00 rfl) _) rfl rfl ?_
   refine GoR.nil ?_
   exact hX2 _ H _ _ ⟨Ad, ⟨rfl, rfl, rfl, rfl, trivial⟩, hO, rB, aK, aM, aN, aO, ap, hB⟩
 replace H := ifn h63 H
 refine GoR.op ((fun w => opB (J0w rfl rfl w) (decide_eq_false h63)) _) rfl rfl ?_
 refine GoR.nil ?_
 refine Go1.seq ?_
 refine Go1.condF rfl rfl ?_
 refine Go1.exit rfl ?_
 refine Go1.seq ?_
 refine Go1.region ?_
 refine GoR.op ((oblk (i := 0) 1 hO rfl rfl Try.underlying26 rfl rfl) _ (Same.refl _)) rfl rfl ?_
 refine GoR.op ((J05 rfl) _) rfl rfl ?_
 refine GoR.nil ?_
 have hobt := freeze 2 hO rfl rB
 obtain ⟨hO1, nM, Ae, Af⟩ := hobt
 replace aK := aK.ch nM
 replace aM := aM.ch nM
 replace aN := aN.ch nM
 replace aO := aO.ch nM
 replace ap := ap.ch nM
 replace hB := hB.trans (Owns.J15 _ _ 2)
 replace hO := hO1; clear hO1
 refine Go1.ret1 Try.func23 rfl ?_
 exact ⟨d_60, p17, r1.Below.length, (congrArg (fun nn => Value.slice p17 nn r1.Below.length) Af), hB.same, (Ae.ch (Ch.weak _ _ _)), H⟩
theorem body8 : Body Try.prog 8 := ⟨Try.f8, Try.func8, rfl, by kernel_rfl⟩
theorem J0z {A : List Nat} {w0 : World} (hA : ∀ b ∈ A, b < w0.heap.size) {K : Bool → Prop} (H : law15_awake  K) :
    CallsV Try.prog 8 #[] w0 (fun v w' => ∃ (r0 : Bool), v = .bool r0 ∧ Same w0 w' ∧ K r0) := by
 refine cal hA Try.func8 Try.ntmps8 fun hO hB => ?_
 unfold law15_awake at H
 refine au ?_
 refine zcr (J04 body21 rfl (J37 hO.lt H)) fun _ w2 => e3 fun r1 Gz GA => sc0 hO fun s hO => d1 fun CA H => ?_
 refine zcr (J04 body9 rfl (J1f hO.lt CA H)) fun _ w4 => e4 fun r3 CX C0 C1 => e4 fun C2 C3 C4 C5 => e3 fun C6 Ag Ah => sc0 hO fun s hO => d1 fun C7 => d4 fun C8 wP C9 rC H => ?_
 refine sal hO fun w5 B6 s hO => ?_
 refine sba 0 hO fun w8 s hO => ?_
 refine sbu Fl.i 3 [(0 : Int), (0 : Int), (1 : Int)] hO fun w9 p10 s hO => ?_
 have CB := t1lend 0 hO
 have uK := t1n 0 hO
 have hOc14 := hO.drop 0
 refine zcr (J04 body22 (by rw [uK]; exact rfl) (J0J hOc14.lt (wP.u.ch (Owns.J6c _ _ 0)) CB H)) fun _ w16 => e1 fun r15 => sc0 hO fun s hO => fun H => ?_
 refine au ?_
 cases r15
 ·refine au ?_
  refine Go1.ret1 Try.func8 rfl ⟨_, er, frs, (iF H)⟩
 refine sln0 ?_
 refine scm ((iT H) rC.bd) (fun h17 H => ?_) fun h17 H => ?_
 ·refine au ?_
  refine zcr (J04 body21 rfl (J37 hO.lt H)) fun _ w19 => e3 fun r18 oS oT => sc0 hO fun s hO => d1 fun j8 H => ?_
  refine zcr (J04 body23 rfl (J42 hO.lt j8 H)) fun _ w21 => e3 fun r20 y4 y5 => sc0 hO fun s hO => d1 fun rh H => ?_
  refine sbu Fl.i 3 [(0 : Int), (1 : Int)] hO fun w22 p23 s hO => ?_
  have CC := t1lend 0 hO
  have o3 := t1n 0 hO
  have hOc27 := hO.drop 0
  refine zcr (J04 body22 (by rw [o3]; exact rfl) (J0J hOc27.lt (rh.u.ch (Owns.J6c _ _ 0)) CC H)) fun _ w29 => e1 fun r28 => sc0 hO fun s hO => fun H => ?_
  refine au ?_
  refine Go1.ret1 Try.func8 rfl ⟨_, er, frs, H⟩
 refine au ?_
 refine Go1.ret1 Try.func8 rfl ⟨_, er, frs, H⟩
theorem body37 : Body Try.prog 37 := ⟨Try.f37, Try.func37, rfl, by kernel_rfl⟩
theorem J36 {A : List Nat} {w0 : World} {p_t : Option Addr} {c_t : Nat} {t : List (List Int)} (hA : ∀ b ∈ A, b < w0.heap.size) (h_t : ISl (Rp.sl (Rp.int .i64)) A w0 p_t c_t t) {K : Int → Int → Int → Int → Prop} (H : J0t t K) :
    CallsV Try.prog 37 #[.slice p_t t.length c_t] w0 (fun v w' => ∃ (r0 : Int), ∃ (r1 : Int), ∃ (r2 : Int), ∃ (r3 : Int), v = .tuple #[.int .i64 r0, .int .i64 r1, .int .i64 r2, .int .i64 r3] ∧ Same w0 w' ∧ K r0 r1 r2 r3) := by
 refine cal hA Try.func37 Try.ntmps37 fun hO hB => ?_
 unfold J0t at H
 refine au ?_
 refine zcr (J04 body33 rfl (J32 hO.lt h_t.u H)) fun _ w2 => e1 fun r1 => sc0 hO fun s hO => fun H => ?_
 refine scm H (fun h3 H => ?_) fun h3 H => ?_
 ·refine sln0 ?_
  refine au ?_
  refine lv [0, 16] hO (H h_t.bd) (fun E k1_5 σ w => Lo A w0 σ w [(17, .int .i64 (k1_5 : Int))] []) ⟨agr, hO, fr⟩ ?_
  refine fun X1 => fun k1_5 => fun H hX1 σ w4 hk => lh hk fun hO hB => ?_
  revert hO; repeat (rename Owns .. => q; clear q)
  intro hO; repeat (rename Sq .. => q; clear q)
  refine scm H (fun h6 H => ?_) fun h6 H => ?_
  ·refine sln0 ?_
   refine au ?_
   refine lv [0, 7, 16, 17, 21] hO H (fun E k2_8 σ w => Lo A w0 σ w [(22, .int .i64 (k2_8 : Int))] []) ⟨agr, hO, fr⟩ ?_
   refine fun X2 => fun k2_8 => fun H hX2 σ w7 hk => lh hk fun hO hB => ?_
   revert hO; repeat (rename Owns .. => q; clear q)
   intro hO; repeat (rename Sq .. => q; clear q)
   refine scm H (fun h9 H => ?_) fun h9 H => ?_
   ·refine sln0 ?_
    refine au ?_
    refine lv [0, 7, 8, 16, 17, 21, 22, 26] hO H (fun E k3_11 σ w => Lo A w0 σ w [(27, .int .i64 (k3_11 : Int))] []) ⟨agr, hO, fr⟩ ?_
    refine fun X3 => fun k3_11 => fun H hX3 σ w10 hk => lh hk fun hO hB => ?_
    revert hO; repeat (rename Owns .. => q; clear q)
    intro hO; repeat (rename Sq .. => q; clear q)
    refine scm H (fun h12 H => ?_) fun h12 H => ?_
    ·refine au ?_
     refine drs 0 [q0, q0, q0, q0, q1, q0, q0, q1, q0, q1, q0, q0, q1, q0, q0, q0, q1, q0, q0, q0, q1, q0, q0, q1, q0, q1, q0] hO fun w13 s hO => ?_
     refine sxls hO h_t.u H.1 H.2.1 fun p14 c15 uL => ?_
     refine sxl hO uL.u H.2.2.1 H.2.2.2.1 ?_
     refine sxls hO h_t.u H.2.2.2.2.1 H.2.2.2.2.2.1 fun p17 c18 uN => ?_
     refine sxl hO uN.u H.2.2.2.2.2.2.1 H.2.2.2.2.2.2.2.1 ?_
     refine sxls hO h_t.u H.2.2.2.2.2.2.2.2.1 H.2.2.2.2.2.2.2.2.2.1 fun p20 c21 uO => ?_
     refine sxls hO h_t.u H.2.2.2.2.2.2.2.2.2.2.1 H.2.2.2.2.2.2.2.2.2.2.2.1 fun p23 c24 oY => ?_
     refine sxl hO oY.u H.2.2.2.2.2.2.2.2.2.2.2.2.1 H.2.2.2.2.2.2.2.2.2.2.2.2.2.1 ?_
     refine sxl hO uO.u H.2.2.2.2.2.2.2.2.2.2.2.2.2.2.1 H.2.2.2.2.2.2.2.2.2.2.2.2.2.2.2.1 ?_
     have h26 := H.1
     have h27 := H.2.1
     have h28 := H.2.2.1
     have h29 := H.2.2.2.1
     have h30 := H.2.2.2.2.1
     have h31 := H.2.2.2.2.2.1
     have h32 := H.2.2.2.2.2.2.1
     have h33 := H.2.2.2.2.2.2.2.1
     have h34 := H.2.2.2.2.2.2.2.2.1
     have h35 := H.2.2.2.2.2.2.2.2.2.1
     have h36 := H.2.2.2.2.2.2.2.2.2.2.1
     have h37 := H.2.2.2.2.2.2.2.2.2.2.2.1
     have h38 := H.2.2.2.2.2.2.2.2.2.2.2.2.1
     have h39 := H.2.2.2.2.2.2.2.2.2.2.2.2.2.1
     have h40 := H.2.2.2.2.2.2.2.2.2.2.2.2.2.2.1
     have h41 := H.2.2.2.2.2.2.2.2.2.2.2.2.2.2.2.1
     refine scm H.2.2.2.2.2.2.2.2.2.2.2.2.2.2.2.2 (fun h42 H => ?_) fun h42 H => ?_
     ·refine sinc (natbd h12 h_t.bd) ?_
      refine au ?_
      exact hX3 _ H _ _ agr ⟨agr, hO, fr⟩
     refine au ?_
     refine Go1.ret4 Try.func37 rfl ⟨_, _, _, _, er, frs, H⟩
    refine sinc (natbd h9 h_t.bd) ?_
    refine au ?_
    exact hX2 _ H _ _ agr ⟨agr, hO, fr⟩
   refine sinc (natbd h6 h_t.bd) ?_
   refine au ?_
   exact hX1 _ H _ _ agr ⟨agr, hO, fr⟩
  refine au ?_
  refine Go1.ret4 Try.func37 rfl ⟨_, _, _, _, er, frs, H⟩
 refine au ?_
 refine Go1.ret4 Try.func37 rfl ⟨_, _, _, _, er, frs, H⟩
theorem body15 : Body Try.prog 15 := ⟨Try.f15, Try.func15, rfl, by kernel_rfl⟩
theorem J3A {A : List Nat} {w0 : World} {p_t : Option Addr} {c_t : Nat} {t : List (List Int)} (hA : ∀ b ∈ A, b < w0.heap.size) (h_t : ISl (Rp.sl (Rp.int .i64)) A w0 p_t c_t t) {K : Int → Prop} (H : J11 t K) :
    CallsV Try.prog 15 #[.slice p_t t.length c_t] w0 (fun v w' => ∃ (r0 : Int), v = .int .i64 r0 ∧ Same w0 w' ∧ K r0) := by
 refine cal hA Try.func15 Try.ntmps15 fun hO hB => ?_
 unfold J11 at H
 refine au ?_
 refine zcr (J04 body37 rfl (J36 hO.lt h_t.u H)) fun _ w5 => e4 fun r1 r2 r3 r4 => sc0 hO fun s hO => fun H => ?_
 refine au ?_
 refine Go1.ret1 Try.func15 rfl ⟨_, er, frs, H⟩
theorem J38 {A : List Nat} {w0 : World} {p_t : Option Addr} {c_t : Nat} {t : List (List Int)} {j : Int} (hA : ∀ b ∈ A, b < w0.heap.size) (h_t : ISl (Rp.sl (Rp.int .i64)) A w0 p_t c_t t) {K : Bool → Prop} (H : law15_GreenBoxes t j K) :
    CallsV Try.prog 4 #[.slice p_t t.length c_t, .int .i64 j] w0 (fun v w' => ∃ (r0 : Bool), v = .bool r0 ∧ Same w0 w' ∧ K r0) := by
 refine cal hA Try.func4 Try.ntmps4 fun hO hB => ?_
 unfold law15_GreenBoxes at H
 refine au ?_
 refine zcr (J04 body13 rfl (J4j hO.lt h_t.u H)) fun _ w2 => e1 fun r1 => sc0 hO fun s hO => fun H => ?_
 refine au ?_
 cases r1
 ·refine au ?_
  refine zcr (J04 body14 rfl (J4R hO.lt h_t.u (iF H))) fun _ w5 => e4 fun r3 r4 Aq Ar => e4 fun At Au Ai Aj => e2 fun wS wT => sc0 hO fun s hO => d4 fun lW lX lE kY H => ?_
  refine sal hO fun w6 B7 s hO => ?_
  refine sba 0 hO fun w9 s hO => ?_
  refine au ?_
  refine zcr (J04 body15 rfl (J3A hO.lt h_t.u H)) fun _ w11 => e1 fun r10 => sc0 hO fun s hO => fun H => ?_
  refine scm H (fun h12 H => ?_) fun h12 H => ?_
  ·refine scm H (fun h13 H => ?_) fun h13 H => ?_
   ·refine au ?_
    refine zo (fun w => opB (J0N rfl rfl w) (decide_eq_true h12)) ?_
    refine scm H (fun h14 H => ?_) fun h14 H => ?_
    ·refine sag 0 hO ?_
     refine zo (J1I Try.underlying35 ti35 (pl := [(0, 1), (1, 1), (2, 1), (3, 1)]) (vs := []) (cs := #[.slice none 0 0, .slice none 0 0, .slice none 0 0, .slice none 0 0]) (by kernel_rfl) rfl (by kernel_rfl)) ?_
     refine zcr (J04 body17 rfl (J0G (a1 := (⟨[], [], [], []⟩ : Box)) hO.lt lW.u lX.u lE.u kY.u (ISl.null _ _ _) (ISl.null _ _ _) (ISl.null _ _ _) (ISl.null _ _ _) H)) fun _ w16 => e1 fun r15 => sc0 hO fun s hO => fun H => ?_
     refine au ?_
     cases r15
     ·refine au ?_
      refine Go1.ret1 Try.func4 rfl ⟨_, er, frs, (iF H)⟩
     refine zcr (J04 body8 rfl (J0z hO.lt (iT H))) fun _ w18 => e1 fun r17 => sc0 hO fun s hO => fun H => ?_
     refine au ?_
     refine Go1.ret1 Try.func4 rfl ⟨_, er, frs, H⟩
    refine au ?_
    refine Go1.ret1 Try.func4 rfl ⟨_, er, frs, H⟩
   refine au ?_
   refine zcr (J04 body16 rfl (J2v hO.lt h_t.u H)) fun _ w20 => e4 fun r19 CH CJ CK => e4 fun CM CO CP CQ => e3 fun CR wU wV => sc0 hO fun s hO => d1 fun CT => d4 fun CU CV CW pN H => ?_
   refine zo (J6L Try.underlying29 rfl Try.underlying27 rfl rfl rfl) ?_
   refine sln0 ?_
   refine scm (H pN.bd) (fun h21 H => ?_) fun h21 H => ?_
   ·refine au ?_
    refine zo (fun w => opB (J0N rfl rfl w) (decide_eq_true h12)) ?_
    refine scm H (fun h22 H => ?_) fun h22 H => ?_
    ·refine sag 0 hO ?_
     refine zo (J1I Try.underlying35 ti35 (pl := [(0, 1), (1, 1), (2, 1), (3, 1)]) (vs := []) (cs := #[.slice none 0 0, .slice none 0 0, .slice none 0 0, .slice none 0 0]) (by kernel_rfl) rfl (by kernel_rfl)) ?_
     refine zcr (J04 body17 rfl (J0G (a1 := (⟨[], [], [], []⟩ : Box)) hO.lt lW.u lX.u lE.u kY.u (ISl.null _ _ _) (ISl.null _ _ _) (ISl.null _ _ _) (ISl.null _ _ _) H)) fun _ w24 => e1 fun r23 => sc0 hO fun s hO => fun H => ?_
     refine au ?_
     cases r23
     ·refine au ?_
      refine Go1.ret1 Try.func4 rfl ⟨_, er, frs, (iF H)⟩
     refine zcr (J04 body8 rfl (J0z hO.lt (iT H))) fun _ w26 => e1 fun r25 => sc0 hO fun s hO => fun H => ?_
     refine au ?_
     refine Go1.ret1 Try.func4 rfl ⟨_, er, frs, H⟩
    refine au ?_
    refine Go1.ret1 Try.func4 rfl ⟨_, er, frs, H⟩
   refine au ?_
   refine drs 0 [q0, q0, q0, q1, q0, q0, q2, q2, q0, q0, q2, q0, q0] hO fun w27 s hO => ?_
   refine scm H (fun h28 H => ?_) fun h28 H => ?_
   ·refine sag 0 hO ?_
    refine au ?_
    refine zcq rfl (J04 body18 rfl (J4S hO.lt h_t.u H)) fun _ w30 => e4 fun r29 Ak Am Ao => e4 fun Ap wW wX wQ => e1 fun wR => sq0 hO fun s hO => d4 fun rD rE pO pK H => ?_
    refine zcq rfl (J04 body17 rfl (J0G hO.lt lW.u lX.u lE.u kY.u rD rE pO pK H)) fun _ w32 => e1 fun r31 => sq0 hO fun s hO => fun H => ?_
    refine au ?_
    cases r31
    ·refine au ?_
     refine Go1.ret1 Try.func4 rfl ⟨_, er, frs, (iF H)⟩
    refine zcq rfl (J04 body8 rfl (J0z hO.lt (iT H))) fun _ w34 => e1 fun r33 => sq0 hO fun s hO => fun H => ?_
    refine au ?_
    refine Go1.ret1 Try.func4 rfl ⟨_, er, frs, H⟩
   refine au ?_
   refine Go1.ret1 Try.func4 rfl ⟨_, er, frs, H⟩
  refine au ?_
  refine zo (fun w => opB (J0N rfl rfl w) (decide_eq_false h12)) ?_
  refine scm H (fun h35 H => ?_) fun h35 H => ?_
  ·refine sag 0 hO ?_
   refine zo (J1I Try.underlying35 ti35 (pl := [(0, 1), (1, 1), (2, 1), (3, 1)]) (vs := []) (cs := #[.slice none 0 0, .slice none 0 0, .slice none 0 0, .slice none 0 0]) (by kernel_rfl) rfl (by kernel_rfl)) ?_
   refine zcr (J04 body17 rfl (J0G (a1 := (⟨[], [], [], []⟩ : Box)) hO.lt lW.u lX.u lE.u kY.u (ISl.null _ _ _) (ISl.null _ _ _) (ISl.null _ _ _) (ISl.null _ _ _) H)) fun _ w37 => e1 fun r36 => sc0 hO fun s hO => fun H => ?_
   refine au ?_
   cases r36
   ·refine au ?_
    refine Go1.ret1 Try.func4 rfl ⟨_, er, frs, (iF H)⟩
   refine zcr (J04 body8 rfl (J0z hO.lt (iT H))) fun _ w39 => e1 fun r38 => sc0 hO fun s hO => fun H => ?_
   refine au ?_
   refine Go1.ret1 Try.func4 rfl ⟨_, er, frs, H⟩
  refine au ?_
  refine Go1.ret1 Try.func4 rfl ⟨_, er, frs, H⟩
 refine au ?_
 refine zcr (J04 body8 rfl (J0z hO.lt (iT H))) fun _ w41 => e1 fun r40 => sc0 hO fun s hO => fun H => ?_
 refine au ?_
 refine Go1.ret1 Try.func4 rfl ⟨_, er, frs, H⟩
end Sg
